import Derived.Test.YtbbebhdcfopmmaaZ5
import Derived.Deep.Cut
section
set_option linter.unusedVariables false
set_option linter.unusedSimpArgs false
namespace Go.Proofs.Ytbbebhdcfopmmaa.A
open Go.RowKit Go.Proofs.YtbbebhdcfopmmaaW.PrintWords Go.Proofs.YtbbebhdcfopmmaaW.PrintLast Go.Proofs.YtbbebhdcfopmmaaW.PrintMore Go.Proofs.Ytbbebhdcfopmmaa.PCodecNames

theorem mod_in {a : Int} {N : Nat} (h : 0 < N) (h2 : N ≤ 4194304) : ∃ (r r2 : Int) (k : Nat), a.tmod (N : Int) = r ∧ IntKind.i64.wrap (r + (N : Int)) = r2 ∧ r2.tmod (N : Int) = (k : Int) ∧ k < N ∧ wrap64 (r + (N : Int)) = r2 := by
 have a1 : a.tmod (N : Int) < N := Int.tmod_lt_of_pos _ (by omega)
 have a2 : -(N : Int) < a.tmod (N : Int) := by
  have := Int.lt_tmod_of_pos a (show (0 : Int) < N by omega)
  omega
 obtain ⟨m, hm⟩ : ∃ m : Nat, a.tmod (N : Int) + N = m := ⟨(a.tmod (N : Int) + N).toNat, by omega⟩
 refine ⟨_, (m : Int), m % N, rfl, ?_, tmodN m N, Nat.mod_lt _ h, ?_⟩
 ·rw [hm, IntKind.wrap_i64]; omega
 ·rw [hm]; unfold wrap64; omega
theorem s31s_range {p : Pic} (h : p.ok) : ∀ x ∈ p.s31s, ∀ z ∈ x.f2, 0 ≤ z ∧ z < 4294967296 := by
 intro x hx z hz
 unfold Pic.s31s at hx
 obtain ⟨s, hs, rfl⟩ := List.mem_map.mp hx
 obtain ⟨j, hj, e⟩ := List.mem_iff_getElem.mp hs
 have h7 := (h.2.2.2.2 j hj).2.2.2.2.2.2
 have e2 : p.ss.getD j [] = s := by rw [List.getD_eq_getElem?_getD, List.getElem?_eq_getElem hj, e]; rfl
 have h7 : ∀ i, gt (p.ss.getD j []) i < 4294967296 := h7
 rw [e2] at h7
 have hz : z ∈ ints s := hz
 unfold ints at hz
 obtain ⟨y, hy, rfl⟩ := List.mem_map.mp hz
 have := mem_lt_of h7 y hy
 omega
theorem same_is {A B : Option Addr} {c d m m2 : Nat} {xs ys : List Nat} {z : Bool} {w : World} (hl : xs.length = m) (hl2 : ys.length = m2) (hz : xs = ys ↔ z = true) (hA : (nat .u8).C w A m xs) (hB : (nat .u8).C w B m2 ys) (hc : m ≤ c) (hd : m2 ≤ d) (hm : m < 4611686018427387904) :
    Calls Try.prog 18 #[.slice A m c, .slice B m2 d] w fun e w' => e = .returned (.bool z) ∧ Below w.heap.size w w' := by
 subst hl hl2
 refine (same_nat A B c d xs ys w hA hB hc hd hm).mono ?_
 rintro e w' ⟨rfl, hd⟩
 refine ⟨?_, Drawn0.to_below hd⟩
 cases z
 ·rw [decide_eq_false (fun e => by have := hz.mp e; cases this)]
 ·rw [decide_eq_true (hz.mpr rfl)]
set_option maxHeartbeats 16000000 in
set_option maxRecDepth 100000 in
theorem codecLocal1 (p : Pic) (S : Nat) (A : Option Addr) (cap n : Nat) (l : List S31) (pn at_ : Int) (s : Nat) (w : World) (hn : l.length = n) (hl : l = p.s31s) (hok : p.ok) (hS : 1 ≤ S) (hS2 : S ≤ 1024) (hC : Kd.C k31 w A n l) (hcap : n ≤ cap) (hz : fewB l = true) (hs : fewTo l (min n 100) < 4611686018427387904) (hs4 : s < 4294967296) :
    Calls Try.prog 13 #[.agg #[.int .i64 (p.sp : Int), .slice A n cap], .int .i64 (S : Int), .int .i64 pn, .int .i64 at_, .int .u32 (s : Int)] w fun e w' => e = .returned (.bool true) ∧ Below w.heap.size w w' := by
 have hu47 := Try.underlying47
 have hu31 := Try.underlying31
 have hnp : n = p.ss.length := by rw [← hn, hl, hok.len]
 have hn0 : 0 < n := by rw [hnp]; exact hok.2.1
 have hn4 : n ≤ 4 := by rw [hnp]; exact hok.2.2.1
 have HNP := Aside0.mk hnp
 have HN0 := Aside0.mk (And.intro hn0 hn4)
 obtain ⟨ad, A0, c0, rfl, x0, x1, x2, _, _⟩ := at_T31 hC 0 (by omega) (by omega)
 have e0 : rd_T31 l 0 = ⟨(p.w : Int), (p.h : Int), ints (p.ss.getD 0 [])⟩ := by rw [hl]; exact p.s31s_at (k := 0) hok.2.1
 rw [e0] at x0 x1
 have X0 : Aside0 (w.cell? ad = some (.int .i64 (p.w : Int))) := ⟨x0⟩
 have X1 : Aside0 (w.cell? ⟨ad.block, ad.off + 1, none⟩ = some (.int .i64 (p.h : Int))) := ⟨x1⟩
 clear e0 x0 x1 x2
 obtain ⟨b, hb0⟩ : ∃ b, encN p S = b := ⟨_, rfl⟩
 have HBL : Aside0 (b.length ≤ 4194304) := ⟨by rw [← hb0]; exact enc_small hok hS (by rw [← hl]; exact hz)⟩
 have HB0 := Aside0.mk hb0
 have HN := Aside0.mk hn
 have HL := Aside0.mk hl
 have HOK := Aside0.mk hok
 have HS1 := Aside0.mk hS
 have HS2 := Aside0.mk hS2
 have HC := Aside0.mk hC
 have HCAP := Aside0.mk hcap
 have HZ := Aside0.mk hz
 have HS := Aside0.mk hs
 have h0n : (0 < n) = True := eq_true hn0
 have h0n' : ((0 : Int) < (n : Int)) = True := eq_true (by omega)
 have hpo := hok.2.2.2.2 0 hok.2.1
 have HWB : Aside0 (0 < p.w ∧ 0 < p.h ∧ p.w ≤ 1024 ∧ p.h ≤ 1024) := ⟨⟨hpo.1, hpo.2.1, hpo.2.2.1, hpo.2.2.2.1⟩⟩
 obtain ⟨N, hN⟩ : ∃ N, b.length = N := ⟨_, rfl⟩
 have HNB := Aside0.mk hN
 obtain ⟨cols, hcols⟩ : ∃ r, acrossN p.w S = r := ⟨_, rfl⟩
 obtain ⟨rows, hrows⟩ : ∃ r, acrossN p.h S = r := ⟨_, rfl⟩
 obtain ⟨T, hT⟩ : ∃ r, cols * rows = r := ⟨_, rfl⟩
 obtain ⟨K, hK⟩ : ∃ r, T * n = r := ⟨_, rfl⟩
 have HCOLS := Aside0.mk hcols
 have HT := Aside0.mk (show tilesN p.w p.h S = T by unfold tilesN; rw [hcols, hrows, hT])
 have HK := Aside0.mk (show p.count S = K by unfold Pic.count; rw [HT.out, ← hnp, hK])
 have hNK : 16 + 4 * K ≤ N := by rw [← hN, ← hb0, enc_len, HK.out]; omega
 have HNK := Aside0.mk hNK
 have hK4 : K ≤ 1048576 := by have := HBL.out; omega
 have HK4 := Aside0.mk hK4
 have hTK : T ≤ K := by rw [← hK]; exact Nat.le_mul_of_pos_right _ hn0
 have hc1 : 0 < cols := by rw [← hcols]; exact acrossN_pos hpo.1 hS
 have hr1 : 0 < rows := by rw [← hrows]; exact acrossN_pos hpo.2.1 hS
 have hcT : cols ≤ T := by rw [← hT]; exact Nat.le_mul_of_pos_right _ hr1
 have hrT : rows ≤ T := by rw [← hT]; exact Nat.le_mul_of_pos_left _ hc1
 have HCP := Aside0.mk (And.intro hc1 (And.intro hcT (And.intro hTK (And.intro hrT hK4))))
 obtain ⟨a1, a2, F1⟩ := across_facts (W := p.w) hpo.2.2.1 hS hS2
 obtain ⟨a3, a4, F2⟩ := across_facts (W := p.h) hpo.2.2.2.1 hS hS2
 rw [hcols] at F1
 rw [hrows] at F2
 have F1 := Aside0.mk F1
 have F2 := Aside0.mk F2
 have M1 := Aside0.mk (mul_facts (a := cols) (b := rows) hT (by omega))
 have M2 := Aside0.mk (mul_facts (a := T) (b := n) hK (by omega))
 have F3 : Aside0 (IntKind.i64.wrap (cols : Int) = (cols : Int) ∧ IntKind.i64.wrap (rows : Int) = (rows : Int)) := ⟨by rw [IntKind.wrap_i64]; omega, by rw [IntKind.wrap_i64]; omega⟩
 obtain ⟨t1, ht1⟩ : ∃ r, 4 * cols = r := ⟨_, rfl⟩
 have e1 : (4 : Int) * (cols : Int) = (t1 : Int) := by omega
 obtain ⟨t2, ht2⟩ : ∃ r, t1 * rows = r := ⟨_, rfl⟩
 have ht2' : t2 = 4 * T := by rw [← ht2, ← ht1, Nat.mul_assoc, hT]
 have M3 := Aside0.mk (mul_facts (a := t1) (b := rows) ht2 (by omega))
 obtain ⟨t3, ht3⟩ : ∃ r, t2 * n = r := ⟨_, rfl⟩
 have ht3' : t3 = 4 * K := by rw [← ht3, ht2', Nat.mul_assoc, hK]
 have M4 := Aside0.mk (mul_facts (a := t2) (b := n) ht3 (by omega))
 have s0 : ((S : Int) = 0) = False := eq_false (by omega)
 have s0' : (S = 0) = False := eq_false (by omega)
 have g1 : decide ((N : Int) < 16 + (t3 : Int)) = false := decide_eq_false (by omega)
 have g1' : decide (N < 16 + t3) = false := decide_eq_false (by omega)
 have g1'' : decide ((N : Int) < (t3 : Int) + 16) = false := decide_eq_false (by omega)
 have hcolb : cols ≤ 1048576 := by omega
 have ht3b : t3 ≤ 4194304 := by omega
 have hNb : N ≤ 4194304 := by rw [← hN]; exact HBL.out
 have HNL := Aside0.mk hNb
 have ht3k : t3 = 4 * K := ht3'
 have HN1M : Aside0 (n ≤ 1048576) := ⟨by omega⟩
 have HX31 : Aside0 (∀ x ∈ l, ∀ z ∈ x.f2, 0 ≤ z ∧ z < 4294967296) := ⟨by rw [hl]; exact s31s_range hok⟩
 have HL31 : Aside0 (∀ i : Nat, i < n → (rd_T31 l (i : Int)).f2.length ≤ 35184372088832) := ⟨fun i hi => by rw [hl, p.s31s_at (by omega)]; show (ints _).length ≤ _; rw [ints_length]; have h1 := (hok.2.2.2.2 i (by omega)).2.2.2.2; have h2 : (p.ss.getD i []).length = p.w * p.h := h1.2.1; have h3 : p.w * p.h ≤ 65536 := h1.1; omega⟩
 have HS4 := Aside0.mk hs4
 have hn4' : n ≤ 4 := hn4
 obtain ⟨r1, r2, k, q1, q2, q3, hkn, _⟩ := mod_in (a := pn) hn0 (by omega)
 have FK : Aside0 (pn.tmod (n : Int) = r1 ∧ IntKind.i64.wrap (r1 + (n : Int)) = r2 ∧ r2.tmod (n : Int) = (k : Int)) := ⟨⟨q1, q2, q3⟩⟩
 have HKN := Aside0.mk hkn
 obtain ⟨L, hL⟩ : ∃ r, p.w * p.h = r := ⟨_, rfl⟩
 have hLb : L ≤ 65536 := by rw [← hL]; exact hpo.2.2.2.2.1
 have hL0 : 0 < L := by rw [← hL]; exact Nat.mul_pos hpo.1 hpo.2.1
 obtain ⟨r3, r4, ix, q4, _, q6, hix, q7⟩ := mod_in (a := at_) hL0 (by omega)
 have FI : Aside0 (at_.tmod (L : Int) = r3 ∧ wrap64 (r3 + (L : Int)) = r4 ∧ r4.tmod (L : Int) = (ix : Int)) := ⟨⟨q4, q7, q6⟩⟩
 have HIX := Aside0.mk hix
 have HLL := Aside0.mk hL
 have hkp : k < p.ss.length := by rw [← hnp]; exact hkn
 obtain ⟨zs, hzs⟩ : ∃ r, p.ss.getD k [] = r := ⟨_, rfl⟩
 have hzl : zs.length = L := by rw [← hzs, ← hL]; exact (hok.2.2.2.2 k hkp).2.2.2.2.2.1
 have HZS := Aside0.mk (And.intro hzs hzl)
 obtain ⟨q, hq⟩ : ∃ q, p.put k ix s = q := ⟨_, rfl⟩
 have HQ := Aside0.mk hq
 have HQOK : Aside0 q.ok := ⟨by rw [← hq]; exact Pic.put_ok hok hkp hs4⟩
 have HQN : Aside0 (q.ss.length = n) := ⟨by rw [← hq, p.put_len]; exact hnp.symm⟩
 have HQSP : Aside0 (q.sp = p.sp) := ⟨by rw [← hq]; rfl⟩
 have HQC : Aside0 (q.count S = K) := ⟨by rw [← hq, p.put_count]; exact HK.out⟩
 obtain ⟨l2, hl2⟩ : ∃ r, q.s31s = r := ⟨_, rfl⟩
 have HL2 := Aside0.mk hl2
 have HLS : Aside0 (l.set k ⟨(p.w : Int), (p.h : Int), (ints zs).set ix (s : Int)⟩ = l2) := ⟨by rw [hl, ← hzs, p.put_s31s, hq]; exact hl2⟩
 obtain ⟨c, hc_⟩ : ∃ c, encN q S = c := ⟨_, rfl⟩
 have HCE := Aside0.mk hc_
 obtain ⟨M, hM⟩ : ∃ M, c.length = M := ⟨_, rfl⟩
 have HM := Aside0.mk hM
 have hMn : 16 + 4 * K ≤ M := by rw [← hM, ← hc_, enc_len, HQC.out]; omega
 have hML : M ≤ 4194304 := by rw [← hM, ← hc_]; exact enc_small HQOK.out hS (by
  have h1 := few_pic hok (by rw [← hl]; exact hz)
  have h4 := HQOK.out.2.2.1
  unfold fewB
  rw [decide_eq_true_eq, HQOK.out.len, show min q.ss.length 100 = q.ss.length by omega, fewTo_pic HQOK.out _ (Nat.le_refl _)]
  have e1 : q.w = p.w := by rw [← hq]; rfl
  have e2 : q.h = p.h := by rw [← hq]; rfl
  rw [e1, e2, HQN.out, hnp]; exact h1)
 have HML := Aside0.mk hML
 have HPB : Aside0 (∀ j, j < K → (j ≠ p.at S ix * n + k → q.body S j = p.body S j) ∧ (j = p.at S ix * n + k → (q.body S j = p.body S j ↔ s = gt zs ix))) := ⟨fun j hj => by
  have h := put_body hok hS hkp (i := ix) (by rw [hL]; exact hix) hs4 (j := j) (by rw [HK.out]; exact hj)
  rw [hq, hzs, ← hnp] at h
  exact h⟩
 obtain ⟨adk, A2, ckz, eak, z0, z1, z2, hz2, hCk⟩ := at_T31 (show Kd.C k31 w (some ad) n l from hC) (k : Int) (by omega) (by omega)
 injection eak with eak
 subst eak
 rw [Int.toNat_natCast] at z0 z1 z2
 have ek : rd_T31 l (k : Int) = ⟨(p.w : Int), (p.h : Int), ints zs⟩ := by rw [hl, p.s31s_at hkp, hzs]
 have EK := Aside0.mk ek
 rw [ek] at z2 hz2 hCk
 have z2 : w.cell? ⟨(ad.add (k * 3)).block, (ad.add (k * 3)).off + 2, none⟩ = some (.slice A2 (ints zs).length ckz) := z2
 have hCk : (Kd.int .u32).C w A2 (ints zs).length (ints zs) := hCk
 rw [ints_length, hzl] at z2 hCk
 obtain ⟨aq, haq⟩ : ∃ a, ad.add (k * 3) = a := ⟨_, rfl⟩
 rw [haq] at z2
 have Z2 := Aside0.mk z2
 have hCkn : (nat .u32).C w A2 L zs := C_nats hCk
 have HCK := Aside0.mk hCkn
 obtain ⟨old, hold⟩ : ∃ r, gt zs ix = r := ⟨_, rfl⟩
 obtain ⟨azk, eaz, hcz⟩ := C_nat hCkn ix hix
 subst eaz
 rw [hold] at hcz
 have ZK := Aside0.mk hcz
 have HOLD := Aside0.mk hold
 obtain ⟨y_, hy_⟩ : ∃ r, ix / p.w = r := ⟨_, rfl⟩
 obtain ⟨ys, hys⟩ : ∃ r, y_ / S = r := ⟨_, rfl⟩
 obtain ⟨yc, hyc⟩ : ∃ r, ys * cols = r := ⟨_, rfl⟩
 obtain ⟨x_, hx_⟩ : ∃ r, ix % p.w = r := ⟨_, rfl⟩
 obtain ⟨xs, hxs⟩ : ∃ r, x_ / S = r := ⟨_, rfl⟩
 obtain ⟨u0, hu0⟩ : ∃ r, yc + xs = r := ⟨_, rfl⟩
 obtain ⟨un, hun⟩ : ∃ r, u0 * n = r := ⟨_, rfl⟩
 obtain ⟨mine, hmine⟩ : ∃ r, un + k = r := ⟨_, rfl⟩
 have hat0 : p.at S ix = u0 := by unfold Pic.at; rw [hcols, hy_, hys, hyc, hx_, hxs, hu0]
 have hu0T : u0 < T := by rw [← hat0, ← HT.out]; exact at_lt hS hpo.1 (by rw [hL]; exact hix)
 have hunK : un + n ≤ K := by rw [← hun, ← hK, ← Nat.succ_mul]; exact Nat.mul_le_mul_right _ hu0T
 have HMINE : Aside0 (p.at S ix * n + k = mine ∧ mine < K) := ⟨by rw [hat0, hun, hmine], by omega⟩
 have FM : Aside0 ((ix : Int).tdiv (p.w : Int) = (y_ : Int) ∧ (y_ : Int).tdiv (S : Int) = (ys : Int) ∧ IntKind.i64.wrap ((ys : Int) * (cols : Int)) = (yc : Int) ∧ (ix : Int).tmod (p.w : Int) = (x_ : Int) ∧ (x_ : Int).tdiv (S : Int) = (xs : Int) ∧ IntKind.i64.wrap ((yc : Int) + (xs : Int)) = (u0 : Int) ∧ IntKind.i64.wrap ((u0 : Int) * (n : Int)) = (un : Int) ∧ IntKind.i64.wrap ((un : Int) + (k : Int)) = (mine : Int)) :=
  ⟨by rw [tdivN, hy_], by rw [tdivN, hys], (mul_facts hyc (by omega)).2, by rw [tmodN, hx_], by rw [tdivN, hxs], by rw [IntKind.wrap_i64]; omega, (mul_facts hun (by omega)).2, by rw [IntKind.wrap_i64]; omega⟩
 have FW : Aside0 (IntKind.i64.wrap (y_ : Int) = (y_ : Int) ∧ IntKind.i64.wrap (ys : Int) = (ys : Int) ∧ IntKind.i64.wrap (xs : Int) = (xs : Int)) := by
  have b1 : y_ ≤ ix := by rw [← hy_]; exact Nat.div_le_self _ _
  have b2 : ys ≤ y_ := by rw [← hys]; exact Nat.div_le_self _ _
  exact ⟨by rw [IntKind.wrap_i64]; omega, by rw [IntKind.wrap_i64]; omega, by rw [IntKind.wrap_i64]; omega⟩
 have hpw0 : ((p.w : Int) = 0) = False := eq_false (by have := hpo.1; have h : 0 < p.w := this; omega)
 have hpw0' : (p.w = 0) = False := eq_false (by have := hpo.1; have h : 0 < p.w := this; omega)
 have g3 : decide ((M : Int) < 16 + (t3 : Int)) = false := decide_eq_false (by omega)
 have g3' : decide (M < 16 + t3) = false := decide_eq_false (by omega)
 have hnk0 : ((n : Int) = 0) = False := eq_false (by omega)
 have hnk0' : (n = 0) = False := eq_false (by omega)
 have hLk0 : ((L : Int) = 0) = False := eq_false (by omega)
 have hLk0' : (L = 0) = False := eq_false (by omega)
 have i1 : ((k : Int) < (n : Int)) = True := eq_true (by omega)
 have i2 : (k < n) = True := eq_true hkn
 have i3 : ((ix : Int) < (L : Int)) = True := eq_true (by omega)
 have i4 : (ix < L) = True := eq_true hix
 have HMN := Aside0.mk hMn
 have HT3 := Aside0.mk ht3k
 clear ht3k hs4 q1 q2 q3 hkn hL hLb hL0 q4 q6 hix q7 hkp hzs hzl hq hl2 hc_ hM hMn hML z0 z1 z2 hz2 hCk ek hCkn hcz hold hn4' hy_ hys hyc hx_ hxs hu0 hun hmine hat0 hu0T hunK
 have HNL := Aside0.mk hNb
 clear hnp hn4 hn0 hb0 hn hl hok hS hS2 hC hcap hz hs hpo hN hcols hrows hT hK hNK hK4 hTK hc1 hr1 hcT hrT ht1 ht2 ht2' ht3 ht3'
 go_enter Try.func13, Try.ntmps13
 go_upto_region 8 with (first | ((with_reducible refine gate_dst (N := 5) rfl ?_); refine box_event ?hg (N := 5) ?hd (cs := #[.int .i64 (p.sp : Int), .slice (some ad) n cap]) (t := 47) ?hr ?_; (case hd => rfl); (case hg => rfl); (case hr => first | (go_simp; done) | (go_simp; rfl)); intro gP hg_ w1 hm_ hb_; have P1 := Aside0.mk (hm_); have B1 := Aside0.mk (hb_); clear hm_ hb_ hg_) | (go_at_call 15; refine (known_calls _).mono ?_; rintro e w2 ⟨rfl, hb⟩; have P2 := Aside0.mk (blk_below P1.out hb); have B2 := Aside0.mk (below_step B1.out hb); have p0 := (blk_cell P2.out 0).trans rfl; have p1 := (blk_cell P2.out 1).trans rfl; clear hb) | (go_at_call 28; with_reducible refine (few_any (p.sp : Int) (some ad) cap n l _ HN.out (Kd.C_below HC.out B2.out) HS.out HZ.out).mono ?_; rintro e w3 ⟨rfl, hb⟩; have P3 := Aside0.mk (blk_below P2.out hb); have B3 := Aside0.mk (below_step B2.out hb); have p0 := (blk_cell P3.out 0).trans rfl; have p1 := (blk_cell P3.out 1).trans rfl; clear hb) | (go_at_call 31; with_reducible refine (Encode_good HL.out HN.out HOK.out HS1.out HS2.out (Kd.C_below HC.out B3.out) HCAP.out HB0.out).mono ?_; rintro e w4 ⟨Ab, cb, rfl, hc_, hC_, hb⟩; have P4 := Aside0.mk (blk_below P3.out hb); have B4 := Aside0.mk (below_step B3.out hb); have D4 := Aside0.mk hC_; have HCB := Aside0.mk hc_; clear hb hc_ hC_))
 clear p0 p1
 have D4' := Aside0.mk D4.out
 have HCB' := Aside0.mk HCB.out
 rw [HNB.out] at D4' HCB'
 rw [HNB.out]
 obtain ⟨ab, _, eab, _⟩ := Kd.C_get D4'.out 0 0 (by decide) (by have := HNK.out; omega)
 subst eab
 have p0 := (blk_cell P4.out 0).trans rfl
 have p1 := (blk_cell P4.out 1).trans rfl
 go_upto_region 9 with (first | (go_at_call 29; with_reducible refine (CopyPicB_calls HN.out (Kd.C_below HC.out B4.out) HCAP.out HN1M.out HX31.out HL31.out).mono ?_; rintro e w5 ⟨vq, rfl, hS_, hb⟩; obtain ⟨Aq, cq, evq⟩ := Kd.S_slice hS_; rw [HN.out] at evq; subst evq; have BQ5 := Aside0.mk hb; have Q5 := Aside0.mk hS_; clear hb hS_ p0 p1) | ((with_reducible refine gate_dst (N := 13) rfl ?_); refine box_event ?hg (N := 13) ?hd (cs := #[.int .i64 0, .slice none 0 0]) (t := 47) ?hr ?_; (case hd => rfl); (case hg => rfl); (case hr => first | (go_simp; done) | (go_simp; rfl)); intro gQ hg_ w6 hm_ hb_; have X_ := Aside0.mk (put2 (x := .int .i64 (p.sp : Int)) (y := .slice Aq n cq) hm_ rfl); have HB_ := Aside0.mk ((show Below w5.heap.size w5 w6 from hb_).trans (X_.out.2.2 _ (by rw [hg_]; exact Nat.le_refl _))); have BQ7 := Aside0.mk (below_step BQ5.out HB_.out); have Q7 := Aside0.mk (Kd.S_below Q5.out HB_.out); have G7 := Aside0.mk (X_.out.1); have M_ := Aside0.mk hm_; have o0 := (blk_cell M_.out 0).trans rfl; have o1 := (blk_cell M_.out 1).trans rfl; have fo0 := blk_frozen M_.out 0; have fo1 := blk_frozen M_.out 1; clear hm_ hb_ hg_ X_ HB_ M_))
 generalize (w6.setCell ⟨gQ, 0, none⟩ (.int .i64 (p.sp : Int))).setCell ⟨gQ, 1, none⟩ (.slice Aq n cq) = w7 at *
 clear o0 o1 fo0 fo1 BQ5 Q5
 obtain ⟨aqd, _, eaq, _⟩ := Kd.C_get (Kd.S_reads' Q7.out).2.2 z31 0 (by decide) (by have := HN0.out; rw [HN.out]; omega)
 subst eaq
 have f1 := FK.out.1
 have f2 := FK.out.2.1
 have f3 := FK.out.2.2
 have P_ := Aside0.mk (blk_drew (blk_below P4.out BQ7.out))
 have p1 := (blk_cell P_.out 1).trans rfl
 refine start_ (n := 14) (S := fun w' => w'.cell? ⟨gP, 1, none⟩ = some (.slice (some ad) n cap)) (ds := []) #[ff_,ff_,ff_,ff_,ff_,ff_,ff_,ff_,ff_,ff_,ff_,ff_,ff_,ff_] (by kernel_rfl) rfl rfl (p1) (fun hHeld => ?_)
 refine pure_ (i := 0) (N := some 42) (v := ?_) (a' := ?_) #[tt_,ff_,ff_,ff_,ff_,ff_,ff_,ff_,ff_,ff_,ff_,ff_,ff_,ff_] rfl rfl (by kernel_rfl) (fun _ _ _ h => h) (Or.inl ⟨by rfl, ?_⟩) ?_ ?_
 rotate_left
 ·intro w'
  go_simp
  with_reducible rfl
 rotate_left
 ·simp only [Act.put, List.setIfInBounds_toArray, List.set_cons_zero, List.set_cons_succ, i64_w, i32_w]
  rfl
 refine pure_ (i := 1) (N := some 43) (v := ?_) (a' := ?_) #[tt_,tt_,ff_,ff_,ff_,ff_,ff_,ff_,ff_,ff_,ff_,ff_,ff_,ff_] rfl rfl (by kernel_rfl) (fun _ _ _ h => h) (Or.inl ⟨by rfl, ?_⟩) ?_ ?_
 rotate_left
 ·intro w'
  go_simp
  with_reducible rfl
 rotate_left
 ·simp only [Act.put, List.setIfInBounds_toArray, List.set_cons_zero, List.set_cons_succ, i64_w, i32_w]
  rfl
 refine pure_ (i := 5) (N := some 47) (v := ?_) (a' := ?_) #[tt_,tt_,ff_,ff_,ff_,tt_,ff_,ff_,ff_,ff_,ff_,ff_,ff_,ff_] rfl rfl (by kernel_rfl) (fun _ _ _ h => h) (Or.inl ⟨by rfl, ?_⟩) ?_ ?_
 rotate_left
 ·intro w'
  go_simp
  with_reducible rfl
 rotate_left
 ·simp only [Act.put, List.setIfInBounds_toArray, List.set_cons_zero, List.set_cons_succ, i64_w, i32_w]
  rfl
 refine pure_ (i := 9) (N := some 51) (v := ?_) (a' := ?_) #[tt_,tt_,ff_,ff_,ff_,tt_,ff_,ff_,ff_,tt_,ff_,ff_,ff_,ff_] rfl rfl (by kernel_rfl) (fun _ _ _ h => h) (Or.inl ⟨by rfl, ?_⟩) ?_ ?_
 rotate_left
 ·intro w'
  go_simp
  with_reducible rfl
 rotate_left
 ·simp only [Act.put, List.setIfInBounds_toArray, List.set_cons_zero, List.set_cons_succ, i64_w, i32_w]
  rfl
 refine take_ (i := 2) (N := some 44) (v := ?_) (a' := ?_) #[tt_,tt_,tt_,ff_,ff_,tt_,ff_,ff_,ff_,tt_,ff_,ff_,ff_,ff_] rfl rfl (by kernel_rfl) (fun _ _ _ h => h) (Or.inl ⟨by rfl, ?_⟩) hHeld ?_ ?_
 rotate_left
 ·intro w' s0
  go_simp
  with_reducible rfl
 rotate_left
 ·simp only [Act.put, List.setIfInBounds_toArray, List.set_cons_zero, List.set_cons_succ, i64_w, i32_w]
  rfl
 refine pure_ (i := 3) (N := some 45) (v := ?_) (a' := ?_) #[tt_,tt_,tt_,tt_,ff_,tt_,ff_,ff_,ff_,tt_,ff_,ff_,ff_,ff_] rfl rfl (by kernel_rfl) (fun _ _ _ h => h) (Or.inl ⟨by rfl, ?_⟩) ?_ ?_
 rotate_left
 ·intro w'
  go_simp
  with_reducible rfl
 rotate_left
 ·simp only [Act.put, List.setIfInBounds_toArray, List.set_cons_zero, List.set_cons_succ, i64_w, i32_w]
  rfl
 refine pure_ (i := 4) (N := some 46) (v := ?_) (a' := ?_) #[tt_,tt_,tt_,tt_,tt_,tt_,ff_,ff_,ff_,tt_,ff_,ff_,ff_,ff_] rfl rfl (by kernel_rfl) (fun _ _ _ h => h) (Or.inl ⟨by rfl, ?_⟩) ?_ ?_
 rotate_left
 ·intro w'
  go_simp
  with_reducible rfl
 rotate_left
 ·simp only [Act.put, List.setIfInBounds_toArray, List.set_cons_zero, List.set_cons_succ, i64_w, i32_w]
  rfl
 refine take_ (i := 6) (N := some 48) (v := ?_) (a' := ?_) #[tt_,tt_,tt_,tt_,tt_,tt_,tt_,ff_,ff_,tt_,ff_,ff_,ff_,ff_] rfl rfl (by kernel_rfl) (fun _ _ _ h => h) (Or.inl ⟨by rfl, ?_⟩) hHeld ?_ ?_
 rotate_left
 ·intro w' s0
  go_simp
  with_reducible rfl
 rotate_left
 ·simp only [Act.put, List.setIfInBounds_toArray, List.set_cons_zero, List.set_cons_succ, i64_w, i32_w]
  rfl
 refine pure_ (i := 7) (N := some 49) (v := ?_) (a' := ?_) #[tt_,tt_,tt_,tt_,tt_,tt_,tt_,tt_,ff_,tt_,ff_,ff_,ff_,ff_] rfl rfl (by kernel_rfl) (fun _ _ _ h => h) (Or.inl ⟨by rfl, ?_⟩) ?_ ?_
 rotate_left
 ·intro w'
  go_simp
  with_reducible rfl
 rotate_left
 ·simp only [Act.put, List.setIfInBounds_toArray, List.set_cons_zero, List.set_cons_succ, i64_w, i32_w]
  rfl
 refine pure_ (i := 8) (N := some 50) (v := ?_) (a' := ?_) #[tt_,tt_,tt_,tt_,tt_,tt_,tt_,tt_,tt_,tt_,ff_,ff_,ff_,ff_] rfl rfl (by kernel_rfl) (fun _ _ _ h => h) (Or.inl ⟨by rfl, ?_⟩) ?_ ?_
 rotate_left
 ·intro w'
  go_simp
  with_reducible rfl
 rotate_left
 ·simp only [Act.put, List.setIfInBounds_toArray, List.set_cons_zero, List.set_cons_succ, i64_w, i32_w]
  rfl
 refine take_ (i := 10) (N := some 52) (v := ?_) (a' := ?_) #[tt_,tt_,tt_,tt_,tt_,tt_,tt_,tt_,tt_,tt_,tt_,ff_,ff_,ff_] rfl rfl (by kernel_rfl) (fun _ _ _ h => h) (Or.inl ⟨by rfl, ?_⟩) hHeld ?_ ?_
 rotate_left
 ·intro w' s0
  go_simp
  with_reducible rfl
 rotate_left
 ·simp only [Act.put, List.setIfInBounds_toArray, List.set_cons_zero, List.set_cons_succ, i64_w, i32_w]
  rfl
 refine pure_ (i := 11) (N := some 53) (v := ?_) (a' := ?_) #[tt_,tt_,tt_,tt_,tt_,tt_,tt_,tt_,tt_,tt_,tt_,tt_,ff_,ff_] rfl rfl (by kernel_rfl) (fun _ _ _ h => h) (Or.inl ⟨by rfl, ?_⟩) ?_ ?_
 rotate_left
 ·intro w'
  go_simp
  with_reducible rfl
 rotate_left
 ·simp only [Act.put, List.setIfInBounds_toArray, List.set_cons_zero, List.set_cons_succ, i64_w, i32_w]
  rfl
 refine pure_ (i := 12) (N := some 54) (v := ?_) (a' := ?_) #[tt_,tt_,tt_,tt_,tt_,tt_,tt_,tt_,tt_,tt_,tt_,tt_,tt_,ff_] rfl rfl (by kernel_rfl) (fun _ _ _ h => h) (Or.inl ⟨by rfl, ?_⟩) ?_ ?_
 rotate_left
 ·intro w'
  go_simp
  with_reducible rfl
 rotate_left
 ·simp only [Act.put, List.setIfInBounds_toArray, List.set_cons_zero, List.set_cons_succ, i64_w, i32_w]
  rfl
 refine pure_ (i := 13) (N := some 14) (v := ?_) (a' := ?_) #[tt_,tt_,tt_,tt_,tt_,tt_,tt_,tt_,tt_,tt_,tt_,tt_,tt_,tt_] rfl rfl (by kernel_rfl) (fun _ _ _ h => h) (Or.inl ⟨by rfl, ?_⟩) ?_ ?_
 rotate_left
 ·intro w'
  go_simp
  with_reducible rfl
 rotate_left
 ·simp only [Act.put, List.setIfInBounds_toArray, List.set_cons_zero, List.set_cons_succ, i64_w, i32_w]
  rfl
 refine done_ (by kernel_rfl) ?_
 clear f1 f2 f3 hHeld P_ p1
 have BQ8 := Aside0.mk (below_drew1 BQ7.out)
 have Q8 := Aside0.mk (Kd.S_drew Q7.out)
 have G8 := Aside0.mk (blk_drew G7.out)
 generalize w7.drew = w8 at *
 clear BQ7 Q7 G7
 have p1 := (blk_cell (blk_below P4.out BQ8.out) 1).trans rfl
 have y2 := cell_on1 (B4.out.trans ((BQ8.out).mono (below_size B4.out))) Z2.out
 have f1 := FI.out.1
 have f2 := FI.out.2.1
 have f3 := FI.out.2.2
 go_upto_region 12 with (fail)
 clear f1 f2 f3 p1 y2
 obtain ⟨gs, cs, s1, s2, s3, s4, s5, s6, s7⟩ := S_store Q8.out HKN.out EK.out (i := ix) (by rw [ints_length, HZS.out.2]; exact HIX.out)
 rw [ints_length, HZS.out.2] at s1 s3
 obtain ⟨au, hau⟩ : ∃ a, aqd.add (k * 3) = a := ⟨_, rfl⟩
 rw [hau] at s1
 have o1 := (blk_cell G8.out 1).trans rfl
 have TY := Aside0.mk s4
 have S7 := Aside0.mk s7
 have S2 := Aside0.mk s2
 clear s2 s3 s4 s7
 go_upto_region 13 with (fail)
 obtain ⟨w12, hw12⟩ : ∃ w12, w12 = w8.setCell ⟨gs, ix, none⟩ (.int .u32 (s : Int)) := ⟨_, rfl⟩
 rw [← hw12]
 have Q12 : Aside0 (Kd.S k31 31 w12 w4.heap.size (fun _ => True) (.slice (some aqd) n cq) l2) := ⟨by rw [hw12, ← HLS.out]; exact S7.out (s : Int)⟩
 have BQ12 : Aside0 (Below w4.heap.size w4 w12) := ⟨by rw [hw12]; exact BQ8.out.setCell (p := ⟨gs, ix, none⟩) S2.out _⟩
 have G12 : Aside0 (w12.heap[gQ]? = some (.cells #[.int .i64 (p.sp : Int), .slice (some aqd) n cq] 47 (0, 0))) := ⟨by
  obtain ⟨cells, hc⟩ := TY.out
  rw [hw12]
  exact (Below.heap_setCell _ _ _ gQ (blk_ne G8.out hc (by decide))).trans G8.out⟩
 have CQ : Aside0 (Kd.C k31 w12 (some aqd) n l2 ∧ n ≤ cq) := ⟨by
  obtain ⟨h1, h2, h3⟩ := Kd.S_reads' Q12.out
  rw [← h1] at h3
  exact ⟨h3, h2⟩⟩
 clear hw12 s1 s5 s6 hau o1 S7 S2 TY Q8 G8 BQ8 Q12
 have q0 := (blk_cell G12.out 0).trans rfl
 have q1 := (blk_cell G12.out 1).trans rfl
 go_upto_region 14 with (first | (go_at_call 31; with_reducible refine (Encode_goodS HQSP.out HL2.out HQN.out HQOK.out HS1.out HS2.out CQ.out.1 CQ.out.2 HCE.out HM.out).mono ?_; rintro e w13 ⟨ac, cm, rfl, hc_, hC_, hb⟩; have BQ13 := Aside0.mk (below_step BQ12.out hb); have E13 := Aside0.mk hC_; have HCM := Aside0.mk hc_; clear hb hc_ hC_))
 clear q0 q1 CQ G12 BQ12
 have B13 := Aside0.mk (B4.out.trans (BQ13.out.mono (below_size B4.out)))
 have P13 := Aside0.mk (blk_below P4.out BQ13.out)
 have D13 := Aside0.mk (Kd.C_below D4'.out BQ13.out)
 clear BQ13 P4 D4 D4' B4
 have p1 := (blk_cell P13.out 1).trans rfl
 have z0 := cell_on1 B13.out X0.out
 have z1 := cell_on1 B13.out X1.out
 go_quiet (fail)
 have P14 := Aside0.mk (blk_drewN P13.out nq)
 have B14 := Aside0.mk (pw_below_drewN B13.out nq)
 have D14 := Aside0.mk (Kd.C_drewN D13.out nq)
 have E14 := Aside0.mk (Kd.C_drewN E13.out nq)
 generalize w13.drewN nq = w14 at *
 clear p1 z0 z1 P13 B13 D13 E13
 go_upto_region 15 with (fail)
 have f1 := F1.out.1
 have f2 := F1.out.2.1
 have f3 := F1.out.2.2.1
 have f6 := F2.out.1
 have f7 := F2.out.2.1
 have f8 := F2.out.2.2.1
 have f4 := F3.out.1
 have f5 := F3.out.2
 refine start_ (n := 14) (S := fun w' => True) (ds := []) #[ff_,ff_,ff_,ff_,ff_,ff_,ff_,ff_,ff_,ff_,ff_,ff_,ff_,ff_] (by kernel_rfl) rfl rfl trivial (fun hHeld => ?_)
 refine pure_ (i := 0) (N := some 94) (v := ?_) (a' := ?_) #[tt_,ff_,ff_,ff_,ff_,ff_,ff_,ff_,ff_,ff_,ff_,ff_,ff_,ff_] rfl rfl (by kernel_rfl) (fun _ _ _ h => h) (Or.inl ⟨by rfl, ?_⟩) ?_ ?_
 rotate_left
 ·intro w'
  go_simp
  with_reducible rfl
 rotate_left
 ·simp only [Act.put, List.setIfInBounds_toArray, List.set_cons_zero, List.set_cons_succ, i64_w, i32_w]
  rfl
 refine pure_ (i := 1) (N := some 95) (v := ?_) (a' := ?_) #[tt_,tt_,ff_,ff_,ff_,ff_,ff_,ff_,ff_,ff_,ff_,ff_,ff_,ff_] rfl rfl (by kernel_rfl) (fun _ _ _ h => h) (Or.inl ⟨by rfl, ?_⟩) ?_ ?_
 rotate_left
 ·intro w'
  go_simp
  with_reducible rfl
 rotate_left
 ·simp only [Act.put, List.setIfInBounds_toArray, List.set_cons_zero, List.set_cons_succ, i64_w, i32_w]
  rfl
 refine pure_ (i := 2) (N := some 96) (v := ?_) (a' := ?_) #[tt_,tt_,tt_,ff_,ff_,ff_,ff_,ff_,ff_,ff_,ff_,ff_,ff_,ff_] rfl rfl (by kernel_rfl) (fun _ _ _ h => h) (Or.inl ⟨by rfl, ?_⟩) ?_ ?_
 rotate_left
 ·intro w'
  go_simp
  with_reducible rfl
 rotate_left
 ·simp only [Act.put, List.setIfInBounds_toArray, List.set_cons_zero, List.set_cons_succ, i64_w, i32_w]
  rfl
 refine pure_ (i := 3) (N := some 97) (v := ?_) (a' := ?_) #[tt_,tt_,tt_,tt_,ff_,ff_,ff_,ff_,ff_,ff_,ff_,ff_,ff_,ff_] rfl rfl (by kernel_rfl) (fun _ _ _ h => h) (Or.inl ⟨by rfl, ?_⟩) ?_ ?_
 rotate_left
 ·intro w'
  go_simp
  with_reducible rfl
 rotate_left
 ·simp only [Act.put, List.setIfInBounds_toArray, List.set_cons_zero, List.set_cons_succ, i64_w, i32_w]
  rfl
 refine pure_ (i := 4) (N := some 98) (v := ?_) (a' := ?_) #[tt_,tt_,tt_,tt_,tt_,ff_,ff_,ff_,ff_,ff_,ff_,ff_,ff_,ff_] rfl rfl (by kernel_rfl) (fun _ _ _ h => h) (Or.inl ⟨by rfl, ?_⟩) ?_ ?_
 rotate_left
 ·intro w'
  go_simp
  with_reducible rfl
 rotate_left
 ·simp only [Act.put, List.setIfInBounds_toArray, List.set_cons_zero, List.set_cons_succ, i64_w, i32_w]
  rfl
 refine pure_ (i := 5) (N := some 99) (v := ?_) (a' := ?_) #[tt_,tt_,tt_,tt_,tt_,tt_,ff_,ff_,ff_,ff_,ff_,ff_,ff_,ff_] rfl rfl (by kernel_rfl) (fun _ _ _ h => h) (Or.inl ⟨by rfl, ?_⟩) ?_ ?_
 rotate_left
 ·intro w'
  go_simp
  with_reducible rfl
 rotate_left
 ·simp only [Act.put, List.setIfInBounds_toArray, List.set_cons_zero, List.set_cons_succ, i64_w, i32_w]
  rfl
 refine pure_ (i := 6) (N := some 100) (v := ?_) (a' := ?_) #[tt_,tt_,tt_,tt_,tt_,tt_,tt_,ff_,ff_,ff_,ff_,ff_,ff_,ff_] rfl rfl (by kernel_rfl) (fun _ _ _ h => h) (Or.inl ⟨by rfl, ?_⟩) ?_ ?_
 rotate_left
 ·intro w'
  go_simp
  with_reducible rfl
 rotate_left
 ·simp only [Act.put, List.setIfInBounds_toArray, List.set_cons_zero, List.set_cons_succ, i64_w, i32_w]
  rfl
 refine pure_ (i := 7) (N := some 101) (v := ?_) (a' := ?_) #[tt_,tt_,tt_,tt_,tt_,tt_,tt_,tt_,ff_,ff_,ff_,ff_,ff_,ff_] rfl rfl (by kernel_rfl) (fun _ _ _ h => h) (Or.inl ⟨by rfl, ?_⟩) ?_ ?_
 rotate_left
 ·intro w'
  go_simp
  with_reducible rfl
 rotate_left
 ·simp only [Act.put, List.setIfInBounds_toArray, List.set_cons_zero, List.set_cons_succ, i64_w, i32_w]
  rfl
 refine pure_ (i := 8) (N := some 102) (v := ?_) (a' := ?_) #[tt_,tt_,tt_,tt_,tt_,tt_,tt_,tt_,tt_,ff_,ff_,ff_,ff_,ff_] rfl rfl (by kernel_rfl) (fun _ _ _ h => h) (Or.inl ⟨by rfl, ?_⟩) ?_ ?_
 rotate_left
 ·intro w'
  go_simp
  with_reducible rfl
 rotate_left
 ·simp only [Act.put, List.setIfInBounds_toArray, List.set_cons_zero, List.set_cons_succ, i64_w, i32_w]
  rfl
 refine pure_ (i := 9) (N := some 103) (v := ?_) (a' := ?_) #[tt_,tt_,tt_,tt_,tt_,tt_,tt_,tt_,tt_,tt_,ff_,ff_,ff_,ff_] rfl rfl (by kernel_rfl) (fun _ _ _ h => h) (Or.inl ⟨by rfl, ?_⟩) ?_ ?_
 rotate_left
 ·intro w'
  go_simp
  with_reducible rfl
 rotate_left
 ·simp only [Act.put, List.setIfInBounds_toArray, List.set_cons_zero, List.set_cons_succ, i64_w, i32_w]
  rfl
 refine pure_ (i := 10) (N := some 104) (v := ?_) (a' := ?_) #[tt_,tt_,tt_,tt_,tt_,tt_,tt_,tt_,tt_,tt_,tt_,ff_,ff_,ff_] rfl rfl (by kernel_rfl) (fun _ _ _ h => h) (Or.inl ⟨by rfl, ?_⟩) ?_ ?_
 rotate_left
 ·intro w'
  go_simp
  with_reducible rfl
 rotate_left
 ·simp only [Act.put, List.setIfInBounds_toArray, List.set_cons_zero, List.set_cons_succ, i64_w, i32_w]
  rfl
 refine pure_ (i := 11) (N := some 105) (v := ?_) (a' := ?_) #[tt_,tt_,tt_,tt_,tt_,tt_,tt_,tt_,tt_,tt_,tt_,tt_,ff_,ff_] rfl rfl (by kernel_rfl) (fun _ _ _ h => h) (Or.inl ⟨by rfl, ?_⟩) ?_ ?_
 rotate_left
 ·intro w'
  go_simp
  with_reducible rfl
 rotate_left
 ·simp only [Act.put, List.setIfInBounds_toArray, List.set_cons_zero, List.set_cons_succ, i64_w, i32_w]
  rfl
 refine pure_ (i := 12) (N := some 20) (v := ?_) (a' := ?_) #[tt_,tt_,tt_,tt_,tt_,tt_,tt_,tt_,tt_,tt_,tt_,tt_,tt_,ff_] rfl rfl (by kernel_rfl) (fun _ _ _ h => h) (Or.inl ⟨by rfl, ?_⟩) ?_ ?_
 rotate_left
 ·intro w'
  go_simp
  with_reducible rfl
 rotate_left
 ·simp only [Act.put, List.setIfInBounds_toArray, List.set_cons_zero, List.set_cons_succ, i64_w, i32_w]
  rfl
 refine pure_ (i := 13) (N := some 21) (v := ?_) (a' := ?_) #[tt_,tt_,tt_,tt_,tt_,tt_,tt_,tt_,tt_,tt_,tt_,tt_,tt_,tt_] rfl rfl (by kernel_rfl) (fun _ _ _ h => h) (Or.inl ⟨by rfl, ?_⟩) ?_ ?_
 rotate_left
 ·intro w'
  go_simp
  with_reducible rfl
 rotate_left
 ·simp only [Act.put, List.setIfInBounds_toArray, List.set_cons_zero, List.set_cons_succ, i64_w, i32_w]
  rfl
 refine done_ (by kernel_rfl) ?_
 have P15 := Aside0.mk (blk_drew P14.out)
 have B15 := Aside0.mk (below_drew1 B14.out)
 have D15 := Aside0.mk (Kd.C_drew D14.out)
 have E15 := Aside0.mk (Kd.C_drew E14.out)
 generalize w14.drew = w15 at *
 clear P14 B14 D14 E14 f1 f2 f3 f4 f5 f6 f7 f8 hHeld
 have p1 := (blk_cell P15.out 1).trans rfl
 have m1' := M1.out.2
 have m2' := M2.out.2
 go_upto_region 17 with (fail)
 clear m1' m2' p1 e1
 have e1 : (4 : Int) * (K : Int) = (t3 : Int) := by have := HT3.out; omega
 go_upto_region 19 with (fail)
 go_upto_region 22 with (first | (have hn_ := V16; clear hn_; go_at_call 44; with_reducible refine (parts_enc HQOK.out HS1.out HS2.out HCE.out HM.out HQC.out E16.out HCM.out HML.out).mono ?_; rintro e w17 ⟨gw, cw, rfl, hR, hb⟩; have P17 := Aside0.mk (blk_below P16.out hb); have B17 := Aside0.mk (below_step B16.out hb); have D17 := Aside0.mk (Kd.C_below D16.out hb); have E17 := Aside0.mk (Kd.C_below E16.out hb); have V17 := Aside0.mk (Kd.R_below V16.out hb); have W17 := Aside0.mk hR; clear hb hR) | (go_at_call 44; with_reducible refine (parts_enc HOK.out HS1.out HS2.out HB0.out HNB.out HK.out D15.out HCB'.out HNL.out).mono ?_; rintro e w16 ⟨gv, cv, rfl, hR, hb⟩; have P16 := Aside0.mk (blk_below P15.out hb); have B16 := Aside0.mk (below_step B15.out hb); have D16 := Aside0.mk (Kd.C_below D15.out hb); have E16 := Aside0.mk (Kd.C_below E15.out hb); have V16 := Aside0.mk hR; clear hb hR))
 have P18 := Aside0.mk (blk_drew P17.out)
 have B18 := Aside0.mk (below_drew1 B17.out)
 have D18 := Aside0.mk (Kd.C_drew D17.out)
 have E18 := Aside0.mk (Kd.C_drew E17.out)
 have V18 := Aside0.mk (Kd.R_drew V17.out)
 have W18 := Aside0.mk (Kd.R_drew W17.out)
 have p1 := (blk_cell P18.out 1).trans rfl
 obtain ⟨f1, f2, f3, f4, f5, f6, f7, f8⟩ := FM.out
 obtain ⟨f9, f10, f11⟩ := FW.out
 refine start_ (n := 20) (S := fun w' => w'.cell? ⟨gP, 1, none⟩ = some (.slice (some ad) n cap)) (ds := []) #[ff_,ff_,ff_,ff_,ff_,ff_,ff_,ff_,ff_,ff_,ff_,ff_,ff_,ff_,ff_,ff_,ff_,ff_,ff_,ff_] (by kernel_rfl) rfl rfl (p1) (fun hHeld => ?_)
 refine pure_ (i := 0) (N := some 147) (v := ?_) (a' := ?_) #[tt_,ff_,ff_,ff_,ff_,ff_,ff_,ff_,ff_,ff_,ff_,ff_,ff_,ff_,ff_,ff_,ff_,ff_,ff_,ff_] rfl rfl (by kernel_rfl) (fun _ _ _ h => h) (Or.inl ⟨by rfl, ?_⟩) ?_ ?_
 rotate_left
 ·intro w'
  go_simp
  with_reducible rfl
 rotate_left
 ·simp only [Act.put, List.setIfInBounds_toArray, List.set_cons_zero, List.set_cons_succ, i64_w, i32_w]
  rfl
 refine pure_ (i := 1) (N := some 148) (v := ?_) (a' := ?_) #[tt_,tt_,ff_,ff_,ff_,ff_,ff_,ff_,ff_,ff_,ff_,ff_,ff_,ff_,ff_,ff_,ff_,ff_,ff_,ff_] rfl rfl (by kernel_rfl) (fun _ _ _ h => h) (Or.inl ⟨by rfl, ?_⟩) ?_ ?_
 rotate_left
 ·intro w'
  go_simp
  with_reducible rfl
 rotate_left
 ·simp only [Act.put, List.setIfInBounds_toArray, List.set_cons_zero, List.set_cons_succ, i64_w, i32_w]
  rfl
 refine pure_ (i := 2) (N := some 149) (v := ?_) (a' := ?_) #[tt_,tt_,tt_,ff_,ff_,ff_,ff_,ff_,ff_,ff_,ff_,ff_,ff_,ff_,ff_,ff_,ff_,ff_,ff_,ff_] rfl rfl (by kernel_rfl) (fun _ _ _ h => h) (Or.inl ⟨by rfl, ?_⟩) ?_ ?_
 rotate_left
 ·intro w'
  go_simp
  with_reducible rfl
 rotate_left
 ·simp only [Act.put, List.setIfInBounds_toArray, List.set_cons_zero, List.set_cons_succ, i64_w, i32_w]
  rfl
 refine pure_ (i := 3) (N := some 150) (v := ?_) (a' := ?_) #[tt_,tt_,tt_,tt_,ff_,ff_,ff_,ff_,ff_,ff_,ff_,ff_,ff_,ff_,ff_,ff_,ff_,ff_,ff_,ff_] rfl rfl (by kernel_rfl) (fun _ _ _ h => h) (Or.inl ⟨by rfl, ?_⟩) ?_ ?_
 rotate_left
 ·intro w'
  go_simp
  with_reducible rfl
 rotate_left
 ·simp only [Act.put, List.setIfInBounds_toArray, List.set_cons_zero, List.set_cons_succ, i64_w, i32_w]
  rfl
 refine pure_ (i := 4) (N := some 151) (v := ?_) (a' := ?_) #[tt_,tt_,tt_,tt_,tt_,ff_,ff_,ff_,ff_,ff_,ff_,ff_,ff_,ff_,ff_,ff_,ff_,ff_,ff_,ff_] rfl rfl (by kernel_rfl) (fun _ _ _ h => h) (Or.inl ⟨by rfl, ?_⟩) ?_ ?_
 rotate_left
 ·intro w'
  go_simp
  with_reducible rfl
 rotate_left
 ·simp only [Act.put, List.setIfInBounds_toArray, List.set_cons_zero, List.set_cons_succ, i64_w, i32_w]
  rfl
 refine pure_ (i := 5) (N := some 152) (v := ?_) (a' := ?_) #[tt_,tt_,tt_,tt_,tt_,tt_,ff_,ff_,ff_,ff_,ff_,ff_,ff_,ff_,ff_,ff_,ff_,ff_,ff_,ff_] rfl rfl (by kernel_rfl) (fun _ _ _ h => h) (Or.inl ⟨by rfl, ?_⟩) ?_ ?_
 rotate_left
 ·intro w'
  go_simp
  with_reducible rfl
 rotate_left
 ·simp only [Act.put, List.setIfInBounds_toArray, List.set_cons_zero, List.set_cons_succ, i64_w, i32_w]
  rfl
 refine pure_ (i := 6) (N := some 153) (v := ?_) (a' := ?_) #[tt_,tt_,tt_,tt_,tt_,tt_,tt_,ff_,ff_,ff_,ff_,ff_,ff_,ff_,ff_,ff_,ff_,ff_,ff_,ff_] rfl rfl (by kernel_rfl) (fun _ _ _ h => h) (Or.inl ⟨by rfl, ?_⟩) ?_ ?_
 rotate_left
 ·intro w'
  go_simp
  with_reducible rfl
 rotate_left
 ·simp only [Act.put, List.setIfInBounds_toArray, List.set_cons_zero, List.set_cons_succ, i64_w, i32_w]
  rfl
 refine pure_ (i := 7) (N := some 154) (v := ?_) (a' := ?_) #[tt_,tt_,tt_,tt_,tt_,tt_,tt_,tt_,ff_,ff_,ff_,ff_,ff_,ff_,ff_,ff_,ff_,ff_,ff_,ff_] rfl rfl (by kernel_rfl) (fun _ _ _ h => h) (Or.inl ⟨by rfl, ?_⟩) ?_ ?_
 rotate_left
 ·intro w'
  go_simp
  with_reducible rfl
 rotate_left
 ·simp only [Act.put, List.setIfInBounds_toArray, List.set_cons_zero, List.set_cons_succ, i64_w, i32_w]
  rfl
 refine pure_ (i := 8) (N := some 155) (v := ?_) (a' := ?_) #[tt_,tt_,tt_,tt_,tt_,tt_,tt_,tt_,tt_,ff_,ff_,ff_,ff_,ff_,ff_,ff_,ff_,ff_,ff_,ff_] rfl rfl (by kernel_rfl) (fun _ _ _ h => h) (Or.inl ⟨by rfl, ?_⟩) ?_ ?_
 rotate_left
 ·intro w'
  go_simp
  with_reducible rfl
 rotate_left
 ·simp only [Act.put, List.setIfInBounds_toArray, List.set_cons_zero, List.set_cons_succ, i64_w, i32_w]
  rfl
 refine pure_ (i := 9) (N := some 156) (v := ?_) (a' := ?_) #[tt_,tt_,tt_,tt_,tt_,tt_,tt_,tt_,tt_,tt_,ff_,ff_,ff_,ff_,ff_,ff_,ff_,ff_,ff_,ff_] rfl rfl (by kernel_rfl) (fun _ _ _ h => h) (Or.inl ⟨by rfl, ?_⟩) ?_ ?_
 rotate_left
 ·intro w'
  go_simp
  with_reducible rfl
 rotate_left
 ·simp only [Act.put, List.setIfInBounds_toArray, List.set_cons_zero, List.set_cons_succ, i64_w, i32_w]
  rfl
 refine pure_ (i := 10) (N := some 157) (v := ?_) (a' := ?_) #[tt_,tt_,tt_,tt_,tt_,tt_,tt_,tt_,tt_,tt_,tt_,ff_,ff_,ff_,ff_,ff_,ff_,ff_,ff_,ff_] rfl rfl (by kernel_rfl) (fun _ _ _ h => h) (Or.inl ⟨by rfl, ?_⟩) ?_ ?_
 rotate_left
 ·intro w'
  go_simp
  with_reducible rfl
 rotate_left
 ·simp only [Act.put, List.setIfInBounds_toArray, List.set_cons_zero, List.set_cons_succ, i64_w, i32_w]
  rfl
 refine pure_ (i := 11) (N := some 158) (v := ?_) (a' := ?_) #[tt_,tt_,tt_,tt_,tt_,tt_,tt_,tt_,tt_,tt_,tt_,tt_,ff_,ff_,ff_,ff_,ff_,ff_,ff_,ff_] rfl rfl (by kernel_rfl) (fun _ _ _ h => h) (Or.inl ⟨by rfl, ?_⟩) ?_ ?_
 rotate_left
 ·intro w'
  go_simp
  with_reducible rfl
 rotate_left
 ·simp only [Act.put, List.setIfInBounds_toArray, List.set_cons_zero, List.set_cons_succ, i64_w, i32_w]
  rfl
 refine pure_ (i := 12) (N := some 159) (v := ?_) (a' := ?_) #[tt_,tt_,tt_,tt_,tt_,tt_,tt_,tt_,tt_,tt_,tt_,tt_,tt_,ff_,ff_,ff_,ff_,ff_,ff_,ff_] rfl rfl (by kernel_rfl) (fun _ _ _ h => h) (Or.inl ⟨by rfl, ?_⟩) ?_ ?_
 rotate_left
 ·intro w'
  go_simp
  with_reducible rfl
 rotate_left
 ·simp only [Act.put, List.setIfInBounds_toArray, List.set_cons_zero, List.set_cons_succ, i64_w, i32_w]
  rfl
 refine pure_ (i := 13) (N := some 160) (v := ?_) (a' := ?_) #[tt_,tt_,tt_,tt_,tt_,tt_,tt_,tt_,tt_,tt_,tt_,tt_,tt_,tt_,ff_,ff_,ff_,ff_,ff_,ff_] rfl rfl (by kernel_rfl) (fun _ _ _ h => h) (Or.inl ⟨by rfl, ?_⟩) ?_ ?_
 rotate_left
 ·intro w'
  go_simp
  with_reducible rfl
 rotate_left
 ·simp only [Act.put, List.setIfInBounds_toArray, List.set_cons_zero, List.set_cons_succ, i64_w, i32_w]
  rfl
 refine pure_ (i := 17) (N := some 164) (v := ?_) (a' := ?_) #[tt_,tt_,tt_,tt_,tt_,tt_,tt_,tt_,tt_,tt_,tt_,tt_,tt_,tt_,ff_,ff_,ff_,tt_,ff_,ff_] rfl rfl (by kernel_rfl) (fun _ _ _ h => h) (Or.inl ⟨by rfl, ?_⟩) ?_ ?_
 rotate_left
 ·intro w'
  go_simp
  with_reducible rfl
 rotate_left
 ·simp only [Act.put, List.setIfInBounds_toArray, List.set_cons_zero, List.set_cons_succ, i64_w, i32_w]
  rfl
 refine take_ (i := 14) (N := some 161) (v := ?_) (a' := ?_) #[tt_,tt_,tt_,tt_,tt_,tt_,tt_,tt_,tt_,tt_,tt_,tt_,tt_,tt_,tt_,ff_,ff_,tt_,ff_,ff_] rfl rfl (by kernel_rfl) (fun _ _ _ h => h) (Or.inl ⟨by rfl, ?_⟩) hHeld ?_ ?_
 rotate_left
 ·intro w' s0
  go_simp
  with_reducible rfl
 rotate_left
 ·simp only [Act.put, List.setIfInBounds_toArray, List.set_cons_zero, List.set_cons_succ, i64_w, i32_w]
  rfl
 refine pure_ (i := 15) (N := some 162) (v := ?_) (a' := ?_) #[tt_,tt_,tt_,tt_,tt_,tt_,tt_,tt_,tt_,tt_,tt_,tt_,tt_,tt_,tt_,tt_,ff_,tt_,ff_,ff_] rfl rfl (by kernel_rfl) (fun _ _ _ h => h) (Or.inl ⟨by rfl, ?_⟩) ?_ ?_
 rotate_left
 ·intro w'
  go_simp
  with_reducible rfl
 rotate_left
 ·simp only [Act.put, List.setIfInBounds_toArray, List.set_cons_zero, List.set_cons_succ, i64_w, i32_w]
  rfl
 refine pure_ (i := 16) (N := some 163) (v := ?_) (a' := ?_) #[tt_,tt_,tt_,tt_,tt_,tt_,tt_,tt_,tt_,tt_,tt_,tt_,tt_,tt_,tt_,tt_,tt_,tt_,ff_,ff_] rfl rfl (by kernel_rfl) (fun _ _ _ h => h) (Or.inl ⟨by rfl, ?_⟩) ?_ ?_
 rotate_left
 ·intro w'
  go_simp
  with_reducible rfl
 rotate_left
 ·simp only [Act.put, List.setIfInBounds_toArray, List.set_cons_zero, List.set_cons_succ, i64_w, i32_w]
  rfl
 refine pure_ (i := 18) (N := some 165) (v := ?_) (a' := ?_) #[tt_,tt_,tt_,tt_,tt_,tt_,tt_,tt_,tt_,tt_,tt_,tt_,tt_,tt_,tt_,tt_,tt_,tt_,tt_,ff_] rfl rfl (by kernel_rfl) (fun _ _ _ h => h) (Or.inl ⟨by rfl, ?_⟩) ?_ ?_
 rotate_left
 ·intro w'
  go_simp
  with_reducible rfl
 rotate_left
 ·simp only [Act.put, List.setIfInBounds_toArray, List.set_cons_zero, List.set_cons_succ, i64_w, i32_w]
  rfl
 refine pure_ (i := 19) (N := some 25) (v := ?_) (a' := ?_) #[tt_,tt_,tt_,tt_,tt_,tt_,tt_,tt_,tt_,tt_,tt_,tt_,tt_,tt_,tt_,tt_,tt_,tt_,tt_,tt_] rfl rfl (by kernel_rfl) (fun _ _ _ h => h) (Or.inl ⟨by rfl, ?_⟩) ?_ ?_
 rotate_left
 ·intro w'
  go_simp
  with_reducible rfl
 rotate_left
 ·simp only [Act.put, List.setIfInBounds_toArray, List.set_cons_zero, List.set_cons_succ, i64_w, i32_w]
  rfl
 refine done_ (by kernel_rfl) ?_
 generalize w17.drew = w18 at *
 clear p1 f1 f2 f3 f4 f5 f6 f7 f8 f9 f10 f11 hHeld P15 B15 D15 E15 P17 B17 D17 E17 V17 W17 P16 B16 D16 E16 V16
 go_wp2
 go_loopw [26] (fun v W' => ∃ i : Nat, i ≤ K ∧ v = .int .i64 (i : Int) ∧ Aside0 (W'.heap[gP]? = some (.cells #[.int .i64 (p.sp : Int), .slice (some ad) n cap] 47 (0, 0)) ∧ (nat .u8).C W' (some ab) N b ∧ (vkd ab cb).R 23 W' w15.heap.size (fun _ => True) (.slice (some ⟨gv, 0, none⟩) K cv) (vwsTo b K) ∧ Below w.heap.size w W' ∧ (nat .u8).C W' (some ac) M c ∧ (vkd ac cm).R 23 W' w16.heap.size (fun _ => True) (.slice (some ⟨gw, 0, none⟩) K cw) (vwsTo c K))) (fun v _ => K - (intOf v).toNat)
 case atStart => exact ⟨0, Nat.zero_le _, rfl, ⟨P18.out, D18.out, V18.out, B18.out, E18.out, W18.out⟩⟩
 case round =>
  obtain ⟨i, hi, rfl, HI⟩ := hrel
  have P8 := Aside0.mk HI.out.1
  have D8 := Aside0.mk HI.out.2.1
  have V8 := Aside0.mk HI.out.2.2.1
  have B8 := Aside0.mk HI.out.2.2.2.1
  have E8 := Aside0.mk HI.out.2.2.2.2.1
  have W8 := Aside0.mk HI.out.2.2.2.2.2
  clear HI P18 D18 V18 B18 E18 W18
  by_cases hlt : i < K
  ·have c1 : decide ((i : Int) < (K : Int)) = true := decide_eq_true (by omega)
   have c2 : decide (i < K) = true := decide_eq_true hlt
   have hcp := HCP.out
   have hpb := HPB.out i hlt
   rw [HMINE.out.1] at hpb
   obtain ⟨bd, hbd⟩ : ∃ r, p.body S i = r := ⟨_, rfl⟩
   obtain ⟨cd, hcd⟩ : ∃ r, q.body S i = r := ⟨_, rfl⟩
   rw [hbd, hcd] at hpb
   obtain ⟨u1, u2, u3⟩ := part_C (cap := 0) HQOK.out HS2.out HCE.out HM.out E8.out (i := i) (by rw [HQC.out]; exact hlt)
   obtain ⟨v1, v2, v3⟩ := part_C (cap := 0) HOK.out HS2.out HB0.out HNB.out D8.out (i := i) (by rw [HK.out]; exact hlt)
   rw [hcd] at u1 u2 u3
   rw [hbd] at v1 v2 v3
   obtain ⟨m, hm⟩ : ∃ r, bd.length = r := ⟨_, rfl⟩
   obtain ⟨m2, hm2⟩ : ∃ r, cd.length = r := ⟨_, rfl⟩
   rw [hm2] at u1 u2 u3
   rw [hm] at v1 v2 v3
   obtain ⟨pa, hpa⟩ : ∃ r, partPos c i = r := ⟨_, rfl⟩
   obtain ⟨pb, hpb2⟩ : ∃ r, partPos b i = r := ⟨_, rfl⟩
   have y0 := vws_cell V8.out hlt hpb2 v2
   have y1 := vws_cell W8.out hlt hpa u2
   rw [hpa] at u1 u3
   rw [hpb2] at v1 v3
   obtain ⟨aa, haa⟩ : ∃ r, ac.add pa = r := ⟨_, rfl⟩
   obtain ⟨bb, hbb⟩ : ∃ r, ab.add pb = r := ⟨_, rfl⟩
   obtain ⟨d1, hd1⟩ : ∃ r, cm - pa = r := ⟨_, rfl⟩
   obtain ⟨d2, hd2⟩ : ∃ r, cb - pb = r := ⟨_, rfl⟩
   rw [hbb, hd2] at y0
   rw [haa, hd1] at y1
   rw [haa] at u1
   rw [hbb] at v1
   have hcm := HCM.out
   have hcb := HCB'.out
   have hml := HML.out
   have hnl := HNL.out
   have HU := Aside0.mk (And.intro u1 (show m2 ≤ d1 by omega))
   have HV := Aside0.mk (And.intro v1 (show m ≤ d2 by omega))
   have HBD := Aside0.mk hm
   have HCD := Aside0.mk hm2
   have HMB : Aside0 (m < 4611686018427387904) := ⟨by omega⟩
   have Y0 := Aside0.mk y0
   have Y1 := Aside0.mk y1
   have k1 : ((i : Int) < (K : Int)) = True := eq_true (by omega)
   have k2 : (i < K) = True := eq_true hlt
   have HLK := Aside0.mk hlt
   clear hcp hbd hcd u1 u2 u3 v1 v2 v3 hm hm2 hpa hpb2 haa hbb hd1 hd2 hcm hcb hml hnl y0 y1 hlt
   go_upto_region 26 with (fail)
   have P_ := Aside0.mk (blk_drew P8.out)
   have D_ := Aside0.mk (Kd.C_drew D8.out)
   have V_ := Aside0.mk (Kd.R_drew V8.out)
   have B_ := Aside0.mk (below_drew1 B8.out)
   have E_ := Aside0.mk (Kd.C_drew E8.out)
   have W_ := Aside0.mk (Kd.R_drew W8.out)
   have HU_ := Aside0.mk (Kd.C_drew HU.out.1)
   have HV_ := Aside0.mk (Kd.C_drew HV.out.1)
   have y0 : wr.drew.cell? ⟨gv, i, none⟩ = _ := (cell_drew1 _ _).trans Y0.out
   have y1 : wr.drew.cell? ⟨gw, i, none⟩ = _ := (cell_drew1 _ _).trans Y1.out
   have Y0_ := Aside0.mk y0
   have Y1_ := Aside0.mk y1
   clear P8 D8 V8 B8 E8 W8 Y0 Y1 y0 y1
   by_cases him : i = mine
   ·have hiff := hpb.2 him
    have HIM := Aside0.mk him
    obtain ⟨z, hz⟩ : ∃ z : Bool, decide (s = old) = z := ⟨_, rfl⟩
    have HZZ : Aside0 (bd = cd ↔ z = true) := ⟨by rw [← hz, decide_eq_true_eq, ← HOLD.out]; exact ⟨fun e => hiff.mp e.symm, fun e => (hiff.mpr e).symm⟩⟩
    have j1 : ((i : Int) != (mine : Int)) = false := by rw [bne_eq_false_iff_eq]; omega
    have j2 : ((i : Int) == (mine : Int)) = true := by rw [beq_iff_eq]; omega
    have j3 : ((s : Int) == (old : Int)) = z := by rw [← hz]; by_cases h : s = old <;> simp [h] <;> omega
    have j4 : (z != z) = false := by cases z <;> rfl
    clear hpb hiff him hz
    refine start_ (n := 43) (S := fun w' => w'.cell? ⟨gv, i, none⟩ = some (.slice (some bb) m d2) ∧ w'.cell? ⟨gw, i, none⟩ = some (.slice (some aa) m2 d1) ∧ w'.cell? ⟨gP, 1, none⟩ = some (.slice (some ad) n cap) ∧ w'.cell? ⟨aq.block, aq.off + 2, none⟩ = some (.slice (some azk) L ckz) ∧ w'.cell? (azk.add ix) = some (.int .u32 (old : Int))) (ds := []) #[ff_,ff_,ff_,ff_,ff_,ff_,ff_,ff_,ff_,ff_,ff_,ff_,ff_,ff_,ff_,ff_,ff_,ff_,ff_,ff_,ff_,ff_,ff_,ff_,ff_,ff_,ff_,ff_,ff_,ff_,ff_,ff_,ff_,ff_,ff_,ff_,ff_,ff_,ff_,ff_,ff_,ff_,ff_] (by kernel_rfl) rfl rfl ⟨Y0_.out, Y1_.out, (blk_cell P_.out 1).trans rfl, cell_on1 B_.out Z2.out, cell_on1 B_.out ZK.out⟩ (fun hHeld => ?_)
    generalize wr.drew = wd at *
    refine pure_ (i := 0) (N := some 171) (v := ?_) (a' := ?_) #[tt_,ff_,ff_,ff_,ff_,ff_,ff_,ff_,ff_,ff_,ff_,ff_,ff_,ff_,ff_,ff_,ff_,ff_,ff_,ff_,ff_,ff_,ff_,ff_,ff_,ff_,ff_,ff_,ff_,ff_,ff_,ff_,ff_,ff_,ff_,ff_,ff_,ff_,ff_,ff_,ff_,ff_,ff_] rfl rfl (by kernel_rfl) (fun _ _ _ h => h) (Or.inl ⟨by rfl, ?_⟩) ?_ ?_
    rotate_left
    ·intro w'
     go_simp
     with_reducible rfl
    rotate_left
    ·simp only [Act.put, List.setIfInBounds_toArray, List.set_cons_zero, List.set_cons_succ, i64_w, i32_w]
     rfl
    refine pure_ (i := 1) (N := some 172) (v := ?_) (a' := ?_) #[tt_,tt_,ff_,ff_,ff_,ff_,ff_,ff_,ff_,ff_,ff_,ff_,ff_,ff_,ff_,ff_,ff_,ff_,ff_,ff_,ff_,ff_,ff_,ff_,ff_,ff_,ff_,ff_,ff_,ff_,ff_,ff_,ff_,ff_,ff_,ff_,ff_,ff_,ff_,ff_,ff_,ff_,ff_] rfl rfl (by kernel_rfl) (fun _ _ _ h => h) (Or.inl ⟨by rfl, ?_⟩) ?_ ?_
    rotate_left
    ·intro w'
     go_simp
     with_reducible rfl
    rotate_left
    ·simp only [Act.put, List.setIfInBounds_toArray, List.set_cons_zero, List.set_cons_succ, i64_w, i32_w]
     rfl
    refine pure_ (i := 2) (N := some 173) (v := ?_) (a' := ?_) #[tt_,tt_,tt_,ff_,ff_,ff_,ff_,ff_,ff_,ff_,ff_,ff_,ff_,ff_,ff_,ff_,ff_,ff_,ff_,ff_,ff_,ff_,ff_,ff_,ff_,ff_,ff_,ff_,ff_,ff_,ff_,ff_,ff_,ff_,ff_,ff_,ff_,ff_,ff_,ff_,ff_,ff_,ff_] rfl rfl (by kernel_rfl) (fun _ _ _ h => h) (Or.inl ⟨by rfl, ?_⟩) ?_ ?_
    rotate_left
    ·intro w'
     go_simp
     with_reducible rfl
    rotate_left
    ·simp only [Act.put, List.setIfInBounds_toArray, List.set_cons_zero, List.set_cons_succ, i64_w, i32_w]
     rfl
    refine pure_ (i := 3) (N := some 174) (v := ?_) (a' := ?_) #[tt_,tt_,tt_,tt_,ff_,ff_,ff_,ff_,ff_,ff_,ff_,ff_,ff_,ff_,ff_,ff_,ff_,ff_,ff_,ff_,ff_,ff_,ff_,ff_,ff_,ff_,ff_,ff_,ff_,ff_,ff_,ff_,ff_,ff_,ff_,ff_,ff_,ff_,ff_,ff_,ff_,ff_,ff_] rfl rfl (by kernel_rfl) (fun _ _ _ h => h) (Or.inl ⟨by rfl, ?_⟩) ?_ ?_
    rotate_left
    ·intro w'
     go_simp
     with_reducible rfl
    rotate_left
    ·simp only [Act.put, List.setIfInBounds_toArray, List.set_cons_zero, List.set_cons_succ, i64_w, i32_w]
     rfl
    refine pure_ (i := 4) (N := some 175) (v := undef) (a' := ?_) #[tt_,tt_,tt_,tt_,tt_,ff_,ff_,ff_,ff_,ff_,ff_,ff_,ff_,ff_,ff_,ff_,ff_,ff_,ff_,ff_,ff_,ff_,ff_,ff_,ff_,ff_,ff_,ff_,ff_,ff_,ff_,ff_,ff_,ff_,ff_,ff_,ff_,ff_,ff_,ff_,ff_,ff_,ff_] rfl rfl (by kernel_rfl) (fun _ _ _ h => h) (Or.inr ⟨by rfl, rfl⟩) ?_ ?_
    rotate_left
    ·simp only [Act.put, List.setIfInBounds_toArray, List.set_cons_zero, List.set_cons_succ, i64_w, i32_w]
     rfl
    refine pure_ (i := 5) (N := some 176) (v := undef) (a' := ?_) #[tt_,tt_,tt_,tt_,tt_,tt_,ff_,ff_,ff_,ff_,ff_,ff_,ff_,ff_,ff_,ff_,ff_,ff_,ff_,ff_,ff_,ff_,ff_,ff_,ff_,ff_,ff_,ff_,ff_,ff_,ff_,ff_,ff_,ff_,ff_,ff_,ff_,ff_,ff_,ff_,ff_,ff_,ff_] rfl rfl (by kernel_rfl) (fun _ _ _ h => h) (Or.inr ⟨by rfl, rfl⟩) ?_ ?_
    rotate_left
    ·simp only [Act.put, List.setIfInBounds_toArray, List.set_cons_zero, List.set_cons_succ, i64_w, i32_w]
     rfl
    refine pure_ (i := 6) (N := some 177) (v := undef) (a' := ?_) #[tt_,tt_,tt_,tt_,tt_,tt_,tt_,ff_,ff_,ff_,ff_,ff_,ff_,ff_,ff_,ff_,ff_,ff_,ff_,ff_,ff_,ff_,ff_,ff_,ff_,ff_,ff_,ff_,ff_,ff_,ff_,ff_,ff_,ff_,ff_,ff_,ff_,ff_,ff_,ff_,ff_,ff_,ff_] rfl rfl (by kernel_rfl) (fun _ _ _ h => h) (Or.inr ⟨by rfl, rfl⟩) ?_ ?_
    rotate_left
    ·simp only [Act.put, List.setIfInBounds_toArray, List.set_cons_zero, List.set_cons_succ, i64_w, i32_w]
     rfl
    refine pure_ (i := 7) (N := some 178) (v := undef) (a' := ?_) #[tt_,tt_,tt_,tt_,tt_,tt_,tt_,tt_,ff_,ff_,ff_,ff_,ff_,ff_,ff_,ff_,ff_,ff_,ff_,ff_,ff_,ff_,ff_,ff_,ff_,ff_,ff_,ff_,ff_,ff_,ff_,ff_,ff_,ff_,ff_,ff_,ff_,ff_,ff_,ff_,ff_,ff_,ff_] rfl rfl (by kernel_rfl) (fun _ _ _ h => h) (Or.inr ⟨by rfl, rfl⟩) ?_ ?_
    rotate_left
    ·simp only [Act.put, List.setIfInBounds_toArray, List.set_cons_zero, List.set_cons_succ, i64_w, i32_w]
     rfl
    refine pure_ (i := 8) (N := some 179) (v := undef) (a' := ?_) #[tt_,tt_,tt_,tt_,tt_,tt_,tt_,tt_,tt_,ff_,ff_,ff_,ff_,ff_,ff_,ff_,ff_,ff_,ff_,ff_,ff_,ff_,ff_,ff_,ff_,ff_,ff_,ff_,ff_,ff_,ff_,ff_,ff_,ff_,ff_,ff_,ff_,ff_,ff_,ff_,ff_,ff_,ff_] rfl rfl (by kernel_rfl) (fun _ _ _ h => h) (Or.inr ⟨by rfl, rfl⟩) ?_ ?_
    rotate_left
    ·simp only [Act.put, List.setIfInBounds_toArray, List.set_cons_zero, List.set_cons_succ, i64_w, i32_w]
     rfl
    refine pure_ (i := 9) (N := some 180) (v := undef) (a' := ?_) #[tt_,tt_,tt_,tt_,tt_,tt_,tt_,tt_,tt_,tt_,ff_,ff_,ff_,ff_,ff_,ff_,ff_,ff_,ff_,ff_,ff_,ff_,ff_,ff_,ff_,ff_,ff_,ff_,ff_,ff_,ff_,ff_,ff_,ff_,ff_,ff_,ff_,ff_,ff_,ff_,ff_,ff_,ff_] rfl rfl (by kernel_rfl) (fun _ _ _ h => h) (Or.inr ⟨by rfl, rfl⟩) ?_ ?_
    rotate_left
    ·simp only [Act.put, List.setIfInBounds_toArray, List.set_cons_zero, List.set_cons_succ, i64_w, i32_w]
     rfl
    refine pure_ (i := 10) (N := some 181) (v := undef) (a' := ?_) #[tt_,tt_,tt_,tt_,tt_,tt_,tt_,tt_,tt_,tt_,tt_,ff_,ff_,ff_,ff_,ff_,ff_,ff_,ff_,ff_,ff_,ff_,ff_,ff_,ff_,ff_,ff_,ff_,ff_,ff_,ff_,ff_,ff_,ff_,ff_,ff_,ff_,ff_,ff_,ff_,ff_,ff_,ff_] rfl rfl (by kernel_rfl) (fun _ _ _ h => h) (Or.inr ⟨by rfl, rfl⟩) ?_ ?_
    rotate_left
    ·simp only [Act.put, List.setIfInBounds_toArray, List.set_cons_zero, List.set_cons_succ, i64_w, i32_w]
     rfl
    refine pure_ (i := 11) (N := some 182) (v := undef) (a' := ?_) #[tt_,tt_,tt_,tt_,tt_,tt_,tt_,tt_,tt_,tt_,tt_,tt_,ff_,ff_,ff_,ff_,ff_,ff_,ff_,ff_,ff_,ff_,ff_,ff_,ff_,ff_,ff_,ff_,ff_,ff_,ff_,ff_,ff_,ff_,ff_,ff_,ff_,ff_,ff_,ff_,ff_,ff_,ff_] rfl rfl (by kernel_rfl) (fun _ _ _ h => h) (Or.inr ⟨by rfl, rfl⟩) ?_ ?_
    rotate_left
    ·simp only [Act.put, List.setIfInBounds_toArray, List.set_cons_zero, List.set_cons_succ, i64_w, i32_w]
     rfl
    refine pure_ (i := 12) (N := some 183) (v := undef) (a' := ?_) #[tt_,tt_,tt_,tt_,tt_,tt_,tt_,tt_,tt_,tt_,tt_,tt_,tt_,ff_,ff_,ff_,ff_,ff_,ff_,ff_,ff_,ff_,ff_,ff_,ff_,ff_,ff_,ff_,ff_,ff_,ff_,ff_,ff_,ff_,ff_,ff_,ff_,ff_,ff_,ff_,ff_,ff_,ff_] rfl rfl (by kernel_rfl) (fun _ _ _ h => h) (Or.inr ⟨by rfl, rfl⟩) ?_ ?_
    rotate_left
    ·simp only [Act.put, List.setIfInBounds_toArray, List.set_cons_zero, List.set_cons_succ, i64_w, i32_w]
     rfl
    refine pure_ (i := 13) (N := some 184) (v := undef) (a' := ?_) #[tt_,tt_,tt_,tt_,tt_,tt_,tt_,tt_,tt_,tt_,tt_,tt_,tt_,tt_,ff_,ff_,ff_,ff_,ff_,ff_,ff_,ff_,ff_,ff_,ff_,ff_,ff_,ff_,ff_,ff_,ff_,ff_,ff_,ff_,ff_,ff_,ff_,ff_,ff_,ff_,ff_,ff_,ff_] rfl rfl (by kernel_rfl) (fun _ _ _ h => h) (Or.inr ⟨by rfl, rfl⟩) ?_ ?_
    rotate_left
    ·simp only [Act.put, List.setIfInBounds_toArray, List.set_cons_zero, List.set_cons_succ, i64_w, i32_w]
     rfl
    refine pure_ (i := 14) (N := some 185) (v := ?_) (a' := ?_) #[tt_,tt_,tt_,tt_,tt_,tt_,tt_,tt_,tt_,tt_,tt_,tt_,tt_,tt_,tt_,ff_,ff_,ff_,ff_,ff_,ff_,ff_,ff_,ff_,ff_,ff_,ff_,ff_,ff_,ff_,ff_,ff_,ff_,ff_,ff_,ff_,ff_,ff_,ff_,ff_,ff_,ff_,ff_] rfl rfl (by kernel_rfl) (fun _ _ _ h => h) (Or.inl ⟨by rfl, ?_⟩) ?_ ?_
    rotate_left
    ·intro w'
     go_simp
     with_reducible rfl
    rotate_left
    ·simp only [Act.put, List.setIfInBounds_toArray, List.set_cons_zero, List.set_cons_succ, i64_w, i32_w]
     rfl
    refine pure_ (i := 15) (N := some 186) (v := ?_) (a' := ?_) #[tt_,tt_,tt_,tt_,tt_,tt_,tt_,tt_,tt_,tt_,tt_,tt_,tt_,tt_,tt_,tt_,ff_,ff_,ff_,ff_,ff_,ff_,ff_,ff_,ff_,ff_,ff_,ff_,ff_,ff_,ff_,ff_,ff_,ff_,ff_,ff_,ff_,ff_,ff_,ff_,ff_,ff_,ff_] rfl rfl (by kernel_rfl) (fun _ _ _ h => h) (Or.inl ⟨by rfl, ?_⟩) ?_ ?_
    rotate_left
    ·intro w'
     go_simp
     with_reducible rfl
    rotate_left
    ·simp only [Act.put, List.setIfInBounds_toArray, List.set_cons_zero, List.set_cons_succ, i64_w, i32_w]
     rfl
    refine pure_ (i := 16) (N := some 187) (v := ?_) (a' := ?_) #[tt_,tt_,tt_,tt_,tt_,tt_,tt_,tt_,tt_,tt_,tt_,tt_,tt_,tt_,tt_,tt_,tt_,ff_,ff_,ff_,ff_,ff_,ff_,ff_,ff_,ff_,ff_,ff_,ff_,ff_,ff_,ff_,ff_,ff_,ff_,ff_,ff_,ff_,ff_,ff_,ff_,ff_,ff_] rfl rfl (by kernel_rfl) (fun _ _ _ h => h) (Or.inl ⟨by rfl, ?_⟩) ?_ ?_
    rotate_left
    ·intro w'
     go_simp
     with_reducible rfl
    rotate_left
    ·simp only [Act.put, List.setIfInBounds_toArray, List.set_cons_zero, List.set_cons_succ, i64_w, i32_w]
     rfl
    refine pure_ (i := 17) (N := some 188) (v := ?_) (a' := ?_) #[tt_,tt_,tt_,tt_,tt_,tt_,tt_,tt_,tt_,tt_,tt_,tt_,tt_,tt_,tt_,tt_,tt_,tt_,ff_,ff_,ff_,ff_,ff_,ff_,ff_,ff_,ff_,ff_,ff_,ff_,ff_,ff_,ff_,ff_,ff_,ff_,ff_,ff_,ff_,ff_,ff_,ff_,ff_] rfl rfl (by kernel_rfl) (fun _ _ _ h => h) (Or.inl ⟨by rfl, ?_⟩) ?_ ?_
    rotate_left
    ·intro w'
     go_simp
     with_reducible rfl
    rotate_left
    ·simp only [Act.put, List.setIfInBounds_toArray, List.set_cons_zero, List.set_cons_succ, i64_w, i32_w]
     rfl
    refine pure_ (i := 18) (N := some 189) (v := ?_) (a' := ?_) #[tt_,tt_,tt_,tt_,tt_,tt_,tt_,tt_,tt_,tt_,tt_,tt_,tt_,tt_,tt_,tt_,tt_,tt_,tt_,ff_,ff_,ff_,ff_,ff_,ff_,ff_,ff_,ff_,ff_,ff_,ff_,ff_,ff_,ff_,ff_,ff_,ff_,ff_,ff_,ff_,ff_,ff_,ff_] rfl rfl (by kernel_rfl) (fun _ _ _ h => h) (Or.inl ⟨by rfl, ?_⟩) ?_ ?_
    rotate_left
    ·intro w'
     go_simp
     with_reducible rfl
    rotate_left
    ·simp only [Act.put, List.setIfInBounds_toArray, List.set_cons_zero, List.set_cons_succ, i64_w, i32_w]
     rfl
    refine pure_ (i := 19) (N := some 190) (v := ?_) (a' := ?_) #[tt_,tt_,tt_,tt_,tt_,tt_,tt_,tt_,tt_,tt_,tt_,tt_,tt_,tt_,tt_,tt_,tt_,tt_,tt_,tt_,ff_,ff_,ff_,ff_,ff_,ff_,ff_,ff_,ff_,ff_,ff_,ff_,ff_,ff_,ff_,ff_,ff_,ff_,ff_,ff_,ff_,ff_,ff_] rfl rfl (by kernel_rfl) (fun _ _ _ h => h) (Or.inl ⟨by rfl, ?_⟩) ?_ ?_
    rotate_left
    ·intro w'
     go_simp
     with_reducible rfl
    rotate_left
    ·simp only [Act.put, List.setIfInBounds_toArray, List.set_cons_zero, List.set_cons_succ, i64_w, i32_w]
     rfl
    refine pure_ (i := 20) (N := some 191) (v := ?_) (a' := ?_) #[tt_,tt_,tt_,tt_,tt_,tt_,tt_,tt_,tt_,tt_,tt_,tt_,tt_,tt_,tt_,tt_,tt_,tt_,tt_,tt_,tt_,ff_,ff_,ff_,ff_,ff_,ff_,ff_,ff_,ff_,ff_,ff_,ff_,ff_,ff_,ff_,ff_,ff_,ff_,ff_,ff_,ff_,ff_] rfl rfl (by kernel_rfl) (fun _ _ _ h => h) (Or.inl ⟨by rfl, ?_⟩) ?_ ?_
    rotate_left
    ·intro w'
     go_simp
     with_reducible rfl
    rotate_left
    ·simp only [Act.put, List.setIfInBounds_toArray, List.set_cons_zero, List.set_cons_succ, i64_w, i32_w]
     rfl
    refine pure_ (i := 21) (N := some 192) (v := ?_) (a' := ?_) #[tt_,tt_,tt_,tt_,tt_,tt_,tt_,tt_,tt_,tt_,tt_,tt_,tt_,tt_,tt_,tt_,tt_,tt_,tt_,tt_,tt_,tt_,ff_,ff_,ff_,ff_,ff_,ff_,ff_,ff_,ff_,ff_,ff_,ff_,ff_,ff_,ff_,ff_,ff_,ff_,ff_,ff_,ff_] rfl rfl (by kernel_rfl) (fun _ _ _ h => h) (Or.inl ⟨by rfl, ?_⟩) ?_ ?_
    rotate_left
    ·intro w'
     go_simp
     with_reducible rfl
    rotate_left
    ·simp only [Act.put, List.setIfInBounds_toArray, List.set_cons_zero, List.set_cons_succ, i64_w, i32_w]
     rfl
    refine pure_ (i := 22) (N := some 193) (v := ?_) (a' := ?_) #[tt_,tt_,tt_,tt_,tt_,tt_,tt_,tt_,tt_,tt_,tt_,tt_,tt_,tt_,tt_,tt_,tt_,tt_,tt_,tt_,tt_,tt_,tt_,ff_,ff_,ff_,ff_,ff_,ff_,ff_,ff_,ff_,ff_,ff_,ff_,ff_,ff_,ff_,ff_,ff_,ff_,ff_,ff_] rfl rfl (by kernel_rfl) (fun _ _ _ h => h) (Or.inl ⟨by rfl, ?_⟩) ?_ ?_
    rotate_left
    ·intro w'
     go_simp
     with_reducible rfl
    rotate_left
    ·simp only [Act.put, List.setIfInBounds_toArray, List.set_cons_zero, List.set_cons_succ, i64_w, i32_w]
     rfl
    refine pure_ (i := 24) (N := some 195) (v := ?_) (a' := ?_) #[tt_,tt_,tt_,tt_,tt_,tt_,tt_,tt_,tt_,tt_,tt_,tt_,tt_,tt_,tt_,tt_,tt_,tt_,tt_,tt_,tt_,tt_,tt_,ff_,tt_,ff_,ff_,ff_,ff_,ff_,ff_,ff_,ff_,ff_,ff_,ff_,ff_,ff_,ff_,ff_,ff_,ff_,ff_] rfl rfl (by kernel_rfl) (fun _ _ _ h => h) (Or.inl ⟨by rfl, ?_⟩) ?_ ?_
    rotate_left
    ·intro w'
     go_simp
     with_reducible rfl
    rotate_left
    ·simp only [Act.put, List.setIfInBounds_toArray, List.set_cons_zero, List.set_cons_succ, i64_w, i32_w]
     rfl
    refine pure_ (i := 25) (N := some 196) (v := ?_) (a' := ?_) #[tt_,tt_,tt_,tt_,tt_,tt_,tt_,tt_,tt_,tt_,tt_,tt_,tt_,tt_,tt_,tt_,tt_,tt_,tt_,tt_,tt_,tt_,tt_,ff_,tt_,tt_,ff_,ff_,ff_,ff_,ff_,ff_,ff_,ff_,ff_,ff_,ff_,ff_,ff_,ff_,ff_,ff_,ff_] rfl rfl (by kernel_rfl) (fun _ _ _ h => h) (Or.inl ⟨by rfl, ?_⟩) ?_ ?_
    rotate_left
    ·intro w'
     go_simp
     with_reducible rfl
    rotate_left
    ·simp only [Act.put, List.setIfInBounds_toArray, List.set_cons_zero, List.set_cons_succ, i64_w, i32_w]
     rfl
    refine pure_ (i := 26) (N := some 197) (v := ?_) (a' := ?_) #[tt_,tt_,tt_,tt_,tt_,tt_,tt_,tt_,tt_,tt_,tt_,tt_,tt_,tt_,tt_,tt_,tt_,tt_,tt_,tt_,tt_,tt_,tt_,ff_,tt_,tt_,tt_,ff_,ff_,ff_,ff_,ff_,ff_,ff_,ff_,ff_,ff_,ff_,ff_,ff_,ff_,ff_,ff_] rfl rfl (by kernel_rfl) (fun _ _ _ h => h) (Or.inl ⟨by rfl, ?_⟩) ?_ ?_
    rotate_left
    ·intro w'
     go_simp
     with_reducible rfl
    rotate_left
    ·simp only [Act.put, List.setIfInBounds_toArray, List.set_cons_zero, List.set_cons_succ, i64_w, i32_w]
     rfl
    refine pure_ (i := 29) (N := some 200) (v := ?_) (a' := ?_) #[tt_,tt_,tt_,tt_,tt_,tt_,tt_,tt_,tt_,tt_,tt_,tt_,tt_,tt_,tt_,tt_,tt_,tt_,tt_,tt_,tt_,tt_,tt_,ff_,tt_,tt_,tt_,ff_,ff_,tt_,ff_,ff_,ff_,ff_,ff_,ff_,ff_,ff_,ff_,ff_,ff_,ff_,ff_] rfl rfl (by kernel_rfl) (fun _ _ _ h => h) (Or.inl ⟨by rfl, ?_⟩) ?_ ?_
    rotate_left
    ·intro w'
     go_simp
     with_reducible rfl
    rotate_left
    ·simp only [Act.put, List.setIfInBounds_toArray, List.set_cons_zero, List.set_cons_succ, i64_w, i32_w]
     rfl
    refine pure_ (i := 30) (N := some 201) (v := ?_) (a' := ?_) #[tt_,tt_,tt_,tt_,tt_,tt_,tt_,tt_,tt_,tt_,tt_,tt_,tt_,tt_,tt_,tt_,tt_,tt_,tt_,tt_,tt_,tt_,tt_,ff_,tt_,tt_,tt_,ff_,ff_,tt_,tt_,ff_,ff_,ff_,ff_,ff_,ff_,ff_,ff_,ff_,ff_,ff_,ff_] rfl rfl (by kernel_rfl) (fun _ _ _ h => h) (Or.inl ⟨by rfl, ?_⟩) ?_ ?_
    rotate_left
    ·intro w'
     go_simp
     with_reducible rfl
    rotate_left
    ·simp only [Act.put, List.setIfInBounds_toArray, List.set_cons_zero, List.set_cons_succ, i64_w, i32_w]
     rfl
    refine pure_ (i := 32) (N := some 203) (v := ?_) (a' := ?_) #[tt_,tt_,tt_,tt_,tt_,tt_,tt_,tt_,tt_,tt_,tt_,tt_,tt_,tt_,tt_,tt_,tt_,tt_,tt_,tt_,tt_,tt_,tt_,ff_,tt_,tt_,tt_,ff_,ff_,tt_,tt_,ff_,tt_,ff_,ff_,ff_,ff_,ff_,ff_,ff_,ff_,ff_,ff_] rfl rfl (by kernel_rfl) (fun _ _ _ h => h) (Or.inl ⟨by rfl, ?_⟩) ?_ ?_
    rotate_left
    ·intro w'
     go_simp
     with_reducible rfl
    rotate_left
    ·simp only [Act.put, List.setIfInBounds_toArray, List.set_cons_zero, List.set_cons_succ, i64_w, i32_w]
     rfl
    refine pure_ (i := 36) (N := some 207) (v := ?_) (a' := ?_) #[tt_,tt_,tt_,tt_,tt_,tt_,tt_,tt_,tt_,tt_,tt_,tt_,tt_,tt_,tt_,tt_,tt_,tt_,tt_,tt_,tt_,tt_,tt_,ff_,tt_,tt_,tt_,ff_,ff_,tt_,tt_,ff_,tt_,ff_,ff_,ff_,tt_,ff_,ff_,ff_,ff_,ff_,ff_] rfl rfl (by kernel_rfl) (fun _ _ _ h => h) (Or.inl ⟨by rfl, ?_⟩) ?_ ?_
    rotate_left
    ·intro w'
     go_simp
     with_reducible rfl
    rotate_left
    ·simp only [Act.put, List.setIfInBounds_toArray, List.set_cons_zero, List.set_cons_succ, i64_w, i32_w]
     rfl
    refine take_ (i := 23) (N := some 194) (v := ?_) (a' := ?_) #[tt_,tt_,tt_,tt_,tt_,tt_,tt_,tt_,tt_,tt_,tt_,tt_,tt_,tt_,tt_,tt_,tt_,tt_,tt_,tt_,tt_,tt_,tt_,tt_,tt_,tt_,tt_,ff_,ff_,tt_,tt_,ff_,tt_,ff_,ff_,ff_,tt_,ff_,ff_,ff_,ff_,ff_,ff_] rfl rfl (by kernel_rfl) (fun _ _ _ h => h) (Or.inl ⟨by rfl, ?_⟩) hHeld ?_ ?_
    rotate_left
    ·rintro w' ⟨s0, s1, s2, s3, s4⟩
     go_simp
     with_reducible rfl
    rotate_left
    ·simp only [Act.put, List.setIfInBounds_toArray, List.set_cons_zero, List.set_cons_succ, i64_w, i32_w]
     rfl
    refine take_ (i := 27) (N := some 198) (v := ?_) (a' := ?_) #[tt_,tt_,tt_,tt_,tt_,tt_,tt_,tt_,tt_,tt_,tt_,tt_,tt_,tt_,tt_,tt_,tt_,tt_,tt_,tt_,tt_,tt_,tt_,tt_,tt_,tt_,tt_,tt_,ff_,tt_,tt_,ff_,tt_,ff_,ff_,ff_,tt_,ff_,ff_,ff_,ff_,ff_,ff_] rfl rfl (by kernel_rfl) (fun _ _ _ h => h) (Or.inl ⟨by rfl, ?_⟩) hHeld ?_ ?_
    rotate_left
    ·rintro w' ⟨s0, s1, s2, s3, s4⟩
     go_simp
     with_reducible rfl
    rotate_left
    ·simp only [Act.put, List.setIfInBounds_toArray, List.set_cons_zero, List.set_cons_succ, i64_w, i32_w]
     rfl
    refine take_ (i := 31) (N := some 202) (v := ?_) (a' := ?_) #[tt_,tt_,tt_,tt_,tt_,tt_,tt_,tt_,tt_,tt_,tt_,tt_,tt_,tt_,tt_,tt_,tt_,tt_,tt_,tt_,tt_,tt_,tt_,tt_,tt_,tt_,tt_,tt_,ff_,tt_,tt_,tt_,tt_,ff_,ff_,ff_,tt_,ff_,ff_,ff_,ff_,ff_,ff_] rfl rfl (by kernel_rfl) (fun _ _ _ h => h) (Or.inl ⟨by rfl, ?_⟩) hHeld ?_ ?_
    rotate_left
    ·rintro w' ⟨s0, s1, s2, s3, s4⟩
     go_simp
     with_reducible rfl
    rotate_left
    ·simp only [Act.put, List.setIfInBounds_toArray, List.set_cons_zero, List.set_cons_succ, i64_w, i32_w]
     rfl
    refine pure_ (i := 33) (N := some 204) (v := ?_) (a' := ?_) #[tt_,tt_,tt_,tt_,tt_,tt_,tt_,tt_,tt_,tt_,tt_,tt_,tt_,tt_,tt_,tt_,tt_,tt_,tt_,tt_,tt_,tt_,tt_,tt_,tt_,tt_,tt_,tt_,ff_,tt_,tt_,tt_,tt_,tt_,ff_,ff_,tt_,ff_,ff_,ff_,ff_,ff_,ff_] rfl rfl (by kernel_rfl) (fun _ _ _ h => h) (Or.inl ⟨by rfl, ?_⟩) ?_ ?_
    rotate_left
    ·intro w'
     go_simp
     with_reducible rfl
    rotate_left
    ·simp only [Act.put, List.setIfInBounds_toArray, List.set_cons_zero, List.set_cons_succ, i64_w, i32_w]
     rfl
    refine pure_ (i := 34) (N := some 205) (v := ?_) (a' := ?_) #[tt_,tt_,tt_,tt_,tt_,tt_,tt_,tt_,tt_,tt_,tt_,tt_,tt_,tt_,tt_,tt_,tt_,tt_,tt_,tt_,tt_,tt_,tt_,tt_,tt_,tt_,tt_,tt_,ff_,tt_,tt_,tt_,tt_,tt_,tt_,ff_,tt_,ff_,ff_,ff_,ff_,ff_,ff_] rfl rfl (by kernel_rfl) (fun _ _ _ h => h) (Or.inl ⟨by rfl, ?_⟩) ?_ ?_
    rotate_left
    ·intro w'
     go_simp
     with_reducible rfl
    rotate_left
    ·simp only [Act.put, List.setIfInBounds_toArray, List.set_cons_zero, List.set_cons_succ, i64_w, i32_w]
     rfl
    refine take_ (i := 35) (N := some 206) (v := ?_) (a' := ?_) #[tt_,tt_,tt_,tt_,tt_,tt_,tt_,tt_,tt_,tt_,tt_,tt_,tt_,tt_,tt_,tt_,tt_,tt_,tt_,tt_,tt_,tt_,tt_,tt_,tt_,tt_,tt_,tt_,ff_,tt_,tt_,tt_,tt_,tt_,tt_,tt_,tt_,ff_,ff_,ff_,ff_,ff_,ff_] rfl rfl (by kernel_rfl) (fun _ _ _ h => h) (Or.inl ⟨by rfl, ?_⟩) hHeld ?_ ?_
    rotate_left
    ·rintro w' ⟨s0, s1, s2, s3, s4⟩
     go_simp
     with_reducible rfl
    rotate_left
    ·simp only [Act.put, List.setIfInBounds_toArray, List.set_cons_zero, List.set_cons_succ, i64_w, i32_w]
     rfl
    refine pure_ (i := 37) (N := some 208) (v := ?_) (a' := ?_) #[tt_,tt_,tt_,tt_,tt_,tt_,tt_,tt_,tt_,tt_,tt_,tt_,tt_,tt_,tt_,tt_,tt_,tt_,tt_,tt_,tt_,tt_,tt_,tt_,tt_,tt_,tt_,tt_,ff_,tt_,tt_,tt_,tt_,tt_,tt_,tt_,tt_,tt_,ff_,ff_,ff_,ff_,ff_] rfl rfl (by kernel_rfl) (fun _ _ _ h => h) (Or.inl ⟨by rfl, ?_⟩) ?_ ?_
    rotate_left
    ·intro w'
     go_simp
     with_reducible rfl
    rotate_left
    ·simp only [Act.put, List.setIfInBounds_toArray, List.set_cons_zero, List.set_cons_succ, i64_w, i32_w]
     rfl
    refine take_ (i := 38) (N := some 209) (v := ?_) (a' := ?_) #[tt_,tt_,tt_,tt_,tt_,tt_,tt_,tt_,tt_,tt_,tt_,tt_,tt_,tt_,tt_,tt_,tt_,tt_,tt_,tt_,tt_,tt_,tt_,tt_,tt_,tt_,tt_,tt_,ff_,tt_,tt_,tt_,tt_,tt_,tt_,tt_,tt_,tt_,tt_,ff_,ff_,ff_,ff_] rfl rfl (by kernel_rfl) (fun _ _ _ h => h) (Or.inl ⟨by rfl, ?_⟩) hHeld ?_ ?_
    rotate_left
    ·rintro w' ⟨s0, s1, s2, s3, s4⟩
     go_simp
     with_reducible rfl
    rotate_left
    ·simp only [Act.put, List.setIfInBounds_toArray, List.set_cons_zero, List.set_cons_succ, i64_w, i32_w]
     rfl
    refine pure_ (i := 39) (N := some 210) (v := ?_) (a' := ?_) #[tt_,tt_,tt_,tt_,tt_,tt_,tt_,tt_,tt_,tt_,tt_,tt_,tt_,tt_,tt_,tt_,tt_,tt_,tt_,tt_,tt_,tt_,tt_,tt_,tt_,tt_,tt_,tt_,ff_,tt_,tt_,tt_,tt_,tt_,tt_,tt_,tt_,tt_,tt_,tt_,ff_,ff_,ff_] rfl rfl (by kernel_rfl) (fun _ _ _ h => h) (Or.inl ⟨by rfl, ?_⟩) ?_ ?_
    rotate_left
    ·intro w'
     go_simp
     with_reducible rfl
    rotate_left
    ·simp only [Act.put, List.setIfInBounds_toArray, List.set_cons_zero, List.set_cons_succ, i64_w, i32_w]
     rfl
    refine one_ (i := 28) (N := some 199) #[tt_,tt_,tt_,tt_,tt_,tt_,tt_,tt_,tt_,tt_,tt_,tt_,tt_,tt_,tt_,tt_,tt_,tt_,tt_,tt_,tt_,tt_,tt_,tt_,tt_,tt_,tt_,tt_,tt_,tt_,tt_,tt_,tt_,tt_,tt_,tt_,tt_,tt_,tt_,tt_,ff_,ff_,ff_] rfl rfl (by kernel_rfl) (by decide) (fun K hK => ?_)
    refine goes_ Try.func18 (by kernel_rfl) rfl #[.slice (some bb) m d2, .slice (some aa) m2 d1] (by rfl) rfl rfl (by (try simp only [List.map_toArray, List.map_cons, List.map_nil]); rfl) ?_
    with_reducible refine (same_is HBD.out HCD.out HZZ.out HV_.out HU_.out HV.out.2 HU.out.2 HMB.out).mono ?_
    rintro e w20 ⟨rfl, hb⟩
    refine ⟨_, rfl, ?_⟩
    have P20 := Aside0.mk (blk_below P_.out hb)
    have D20 := Aside0.mk (Kd.C_below D_.out hb)
    have V20 := Aside0.mk (Kd.R_below V_.out hb)
    have B20 := Aside0.mk (below_step B_.out hb)
    have E20 := Aside0.mk (Kd.C_below E_.out hb)
    have W20 := Aside0.mk (Kd.R_below W_.out hb)
    have Y0__ := Aside0.mk (cell_below1 hb Y0_.out)
    have Y1__ := Aside0.mk (cell_below1 hb Y1_.out)
    clear hb
    refine hK.out _ _ ⟨Y0__.out, Y1__.out, (blk_cell P20.out 1).trans rfl, cell_on1 B20.out Z2.out, cell_on1 B20.out ZK.out⟩ (fun hHeld => ?_)
    clear hK K
    refine norm_ (a' := ?_) ?_ ?_
    rotate_left
    ·show Act.put _ (some 199) _ = _
     simp only [Act.put, List.setIfInBounds_toArray, List.set_cons_zero, List.set_cons_succ, i64_w, i32_w]
     rfl
    refine pure_ (i := 40) (N := some 211) (v := ?_) (a' := ?_) #[tt_,tt_,tt_,tt_,tt_,tt_,tt_,tt_,tt_,tt_,tt_,tt_,tt_,tt_,tt_,tt_,tt_,tt_,tt_,tt_,tt_,tt_,tt_,tt_,tt_,tt_,tt_,tt_,tt_,tt_,tt_,tt_,tt_,tt_,tt_,tt_,tt_,tt_,tt_,tt_,tt_,ff_,ff_] rfl rfl (by kernel_rfl) (fun _ _ _ h => h) (Or.inl ⟨by rfl, ?_⟩) ?_ ?_
    rotate_left
    ·intro w'
     go_simp
     with_reducible rfl
    rotate_left
    ·simp only [Act.put, List.setIfInBounds_toArray, List.set_cons_zero, List.set_cons_succ, i64_w, i32_w]
     rfl
    refine pure_ (i := 41) (N := some 212) (v := ?_) (a' := ?_) #[tt_,tt_,tt_,tt_,tt_,tt_,tt_,tt_,tt_,tt_,tt_,tt_,tt_,tt_,tt_,tt_,tt_,tt_,tt_,tt_,tt_,tt_,tt_,tt_,tt_,tt_,tt_,tt_,tt_,tt_,tt_,tt_,tt_,tt_,tt_,tt_,tt_,tt_,tt_,tt_,tt_,tt_,ff_] rfl rfl (by kernel_rfl) (fun _ _ _ h => h) (Or.inl ⟨by rfl, ?_⟩) ?_ ?_
    rotate_left
    ·intro w'
     go_simp
     with_reducible rfl
    rotate_left
    ·simp only [Act.put, List.setIfInBounds_toArray, List.set_cons_zero, List.set_cons_succ, i64_w, i32_w]
     rfl
    refine pure_ (i := 42) (N := some 213) (v := ?_) (a' := ?_) #[tt_,tt_,tt_,tt_,tt_,tt_,tt_,tt_,tt_,tt_,tt_,tt_,tt_,tt_,tt_,tt_,tt_,tt_,tt_,tt_,tt_,tt_,tt_,tt_,tt_,tt_,tt_,tt_,tt_,tt_,tt_,tt_,tt_,tt_,tt_,tt_,tt_,tt_,tt_,tt_,tt_,tt_,tt_] rfl rfl (by kernel_rfl) (fun _ _ _ h => h) (Or.inl ⟨by rfl, ?_⟩) ?_ ?_
    rotate_left
    ·intro w'
     go_simp
     with_reducible rfl
    rotate_left
    ·simp only [Act.put, List.setIfInBounds_toArray, List.set_cons_zero, List.set_cons_succ, i64_w, i32_w]
     rfl
    refine done_ (by kernel_rfl) ?_
    clear j1 j2 j3 j4 hHeld k1 k2
    have hlt := HLK.out
    have hkb := HK4.out
    go_wp2
    go_roundw
    case measure => simp [intOf]; omega
    case rel => exact ⟨i + 1, by omega, by go_num, ⟨P20.out, D20.out, V20.out, B20.out, E20.out, W20.out⟩⟩
   ·have hbc := hpb.1 him
    have HBC : Aside0 (bd = cd ↔ true = true) := ⟨⟨fun _ => rfl, fun _ => hbc.symm⟩⟩
    have j1 : ((i : Int) != (mine : Int)) = true := by rw [bne_iff_ne]; omega
    have j2 : ((i : Int) == (mine : Int)) = false := by rw [beq_eq_false_iff_ne]; omega
    clear hpb hbc him
    refine start_ (n := 43) (S := fun w' => w'.cell? ⟨gv, i, none⟩ = some (.slice (some bb) m d2) ∧ w'.cell? ⟨gw, i, none⟩ = some (.slice (some aa) m2 d1)) (ds := []) #[ff_,ff_,ff_,ff_,ff_,ff_,ff_,ff_,ff_,ff_,ff_,ff_,ff_,ff_,ff_,ff_,ff_,ff_,ff_,ff_,ff_,ff_,ff_,ff_,ff_,ff_,ff_,ff_,ff_,ff_,ff_,ff_,ff_,ff_,ff_,ff_,ff_,ff_,ff_,ff_,ff_,ff_,ff_] (by kernel_rfl) rfl rfl ⟨Y0_.out, Y1_.out⟩ (fun hHeld => ?_)
    generalize wr.drew = wd at *
    refine pure_ (i := 0) (N := some 171) (v := ?_) (a' := ?_) #[tt_,ff_,ff_,ff_,ff_,ff_,ff_,ff_,ff_,ff_,ff_,ff_,ff_,ff_,ff_,ff_,ff_,ff_,ff_,ff_,ff_,ff_,ff_,ff_,ff_,ff_,ff_,ff_,ff_,ff_,ff_,ff_,ff_,ff_,ff_,ff_,ff_,ff_,ff_,ff_,ff_,ff_,ff_] rfl rfl (by kernel_rfl) (fun _ _ _ h => h) (Or.inl ⟨by rfl, ?_⟩) ?_ ?_
    rotate_left
    ·intro w'
     go_simp
     with_reducible rfl
    rotate_left
    ·simp only [Act.put, List.setIfInBounds_toArray, List.set_cons_zero, List.set_cons_succ, i64_w, i32_w]
     rfl
    refine pure_ (i := 1) (N := some 172) (v := ?_) (a' := ?_) #[tt_,tt_,ff_,ff_,ff_,ff_,ff_,ff_,ff_,ff_,ff_,ff_,ff_,ff_,ff_,ff_,ff_,ff_,ff_,ff_,ff_,ff_,ff_,ff_,ff_,ff_,ff_,ff_,ff_,ff_,ff_,ff_,ff_,ff_,ff_,ff_,ff_,ff_,ff_,ff_,ff_,ff_,ff_] rfl rfl (by kernel_rfl) (fun _ _ _ h => h) (Or.inl ⟨by rfl, ?_⟩) ?_ ?_
    rotate_left
    ·intro w'
     go_simp
     with_reducible rfl
    rotate_left
    ·simp only [Act.put, List.setIfInBounds_toArray, List.set_cons_zero, List.set_cons_succ, i64_w, i32_w]
     rfl
    refine pure_ (i := 2) (N := some 173) (v := ?_) (a' := ?_) #[tt_,tt_,tt_,ff_,ff_,ff_,ff_,ff_,ff_,ff_,ff_,ff_,ff_,ff_,ff_,ff_,ff_,ff_,ff_,ff_,ff_,ff_,ff_,ff_,ff_,ff_,ff_,ff_,ff_,ff_,ff_,ff_,ff_,ff_,ff_,ff_,ff_,ff_,ff_,ff_,ff_,ff_,ff_] rfl rfl (by kernel_rfl) (fun _ _ _ h => h) (Or.inl ⟨by rfl, ?_⟩) ?_ ?_
    rotate_left
    ·intro w'
     go_simp
     with_reducible rfl
    rotate_left
    ·simp only [Act.put, List.setIfInBounds_toArray, List.set_cons_zero, List.set_cons_succ, i64_w, i32_w]
     rfl
    refine pure_ (i := 3) (N := some 174) (v := ?_) (a' := ?_) #[tt_,tt_,tt_,tt_,ff_,ff_,ff_,ff_,ff_,ff_,ff_,ff_,ff_,ff_,ff_,ff_,ff_,ff_,ff_,ff_,ff_,ff_,ff_,ff_,ff_,ff_,ff_,ff_,ff_,ff_,ff_,ff_,ff_,ff_,ff_,ff_,ff_,ff_,ff_,ff_,ff_,ff_,ff_] rfl rfl (by kernel_rfl) (fun _ _ _ h => h) (Or.inl ⟨by rfl, ?_⟩) ?_ ?_
    rotate_left
    ·intro w'
     go_simp
     with_reducible rfl
    rotate_left
    ·simp only [Act.put, List.setIfInBounds_toArray, List.set_cons_zero, List.set_cons_succ, i64_w, i32_w]
     rfl
    refine pure_ (i := 4) (N := some 175) (v := ?_) (a' := ?_) #[tt_,tt_,tt_,tt_,tt_,ff_,ff_,ff_,ff_,ff_,ff_,ff_,ff_,ff_,ff_,ff_,ff_,ff_,ff_,ff_,ff_,ff_,ff_,ff_,ff_,ff_,ff_,ff_,ff_,ff_,ff_,ff_,ff_,ff_,ff_,ff_,ff_,ff_,ff_,ff_,ff_,ff_,ff_] rfl rfl (by kernel_rfl) (fun _ _ _ h => h) (Or.inl ⟨by rfl, ?_⟩) ?_ ?_
    rotate_left
    ·intro w'
     go_simp
     with_reducible rfl
    rotate_left
    ·simp only [Act.put, List.setIfInBounds_toArray, List.set_cons_zero, List.set_cons_succ, i64_w, i32_w]
     rfl
    refine pure_ (i := 5) (N := some 176) (v := ?_) (a' := ?_) #[tt_,tt_,tt_,tt_,tt_,tt_,ff_,ff_,ff_,ff_,ff_,ff_,ff_,ff_,ff_,ff_,ff_,ff_,ff_,ff_,ff_,ff_,ff_,ff_,ff_,ff_,ff_,ff_,ff_,ff_,ff_,ff_,ff_,ff_,ff_,ff_,ff_,ff_,ff_,ff_,ff_,ff_,ff_] rfl rfl (by kernel_rfl) (fun _ _ _ h => h) (Or.inl ⟨by rfl, ?_⟩) ?_ ?_
    rotate_left
    ·intro w'
     go_simp
     with_reducible rfl
    rotate_left
    ·simp only [Act.put, List.setIfInBounds_toArray, List.set_cons_zero, List.set_cons_succ, i64_w, i32_w]
     rfl
    refine pure_ (i := 6) (N := some 177) (v := ?_) (a' := ?_) #[tt_,tt_,tt_,tt_,tt_,tt_,tt_,ff_,ff_,ff_,ff_,ff_,ff_,ff_,ff_,ff_,ff_,ff_,ff_,ff_,ff_,ff_,ff_,ff_,ff_,ff_,ff_,ff_,ff_,ff_,ff_,ff_,ff_,ff_,ff_,ff_,ff_,ff_,ff_,ff_,ff_,ff_,ff_] rfl rfl (by kernel_rfl) (fun _ _ _ h => h) (Or.inl ⟨by rfl, ?_⟩) ?_ ?_
    rotate_left
    ·intro w'
     go_simp
     with_reducible rfl
    rotate_left
    ·simp only [Act.put, List.setIfInBounds_toArray, List.set_cons_zero, List.set_cons_succ, i64_w, i32_w]
     rfl
    refine pure_ (i := 8) (N := some 179) (v := ?_) (a' := ?_) #[tt_,tt_,tt_,tt_,tt_,tt_,tt_,ff_,tt_,ff_,ff_,ff_,ff_,ff_,ff_,ff_,ff_,ff_,ff_,ff_,ff_,ff_,ff_,ff_,ff_,ff_,ff_,ff_,ff_,ff_,ff_,ff_,ff_,ff_,ff_,ff_,ff_,ff_,ff_,ff_,ff_,ff_,ff_] rfl rfl (by kernel_rfl) (fun _ _ _ h => h) (Or.inl ⟨by rfl, ?_⟩) ?_ ?_
    rotate_left
    ·intro w'
     go_simp
     with_reducible rfl
    rotate_left
    ·simp only [Act.put, List.setIfInBounds_toArray, List.set_cons_zero, List.set_cons_succ, i64_w, i32_w]
     rfl
    refine pure_ (i := 9) (N := some 180) (v := ?_) (a' := ?_) #[tt_,tt_,tt_,tt_,tt_,tt_,tt_,ff_,tt_,tt_,ff_,ff_,ff_,ff_,ff_,ff_,ff_,ff_,ff_,ff_,ff_,ff_,ff_,ff_,ff_,ff_,ff_,ff_,ff_,ff_,ff_,ff_,ff_,ff_,ff_,ff_,ff_,ff_,ff_,ff_,ff_,ff_,ff_] rfl rfl (by kernel_rfl) (fun _ _ _ h => h) (Or.inl ⟨by rfl, ?_⟩) ?_ ?_
    rotate_left
    ·intro w'
     go_simp
     with_reducible rfl
    rotate_left
    ·simp only [Act.put, List.setIfInBounds_toArray, List.set_cons_zero, List.set_cons_succ, i64_w, i32_w]
     rfl
    refine pure_ (i := 10) (N := some 181) (v := ?_) (a' := ?_) #[tt_,tt_,tt_,tt_,tt_,tt_,tt_,ff_,tt_,tt_,tt_,ff_,ff_,ff_,ff_,ff_,ff_,ff_,ff_,ff_,ff_,ff_,ff_,ff_,ff_,ff_,ff_,ff_,ff_,ff_,ff_,ff_,ff_,ff_,ff_,ff_,ff_,ff_,ff_,ff_,ff_,ff_,ff_] rfl rfl (by kernel_rfl) (fun _ _ _ h => h) (Or.inl ⟨by rfl, ?_⟩) ?_ ?_
    rotate_left
    ·intro w'
     go_simp
     with_reducible rfl
    rotate_left
    ·simp only [Act.put, List.setIfInBounds_toArray, List.set_cons_zero, List.set_cons_succ, i64_w, i32_w]
     rfl
    refine take_ (i := 7) (N := some 178) (v := ?_) (a' := ?_) #[tt_,tt_,tt_,tt_,tt_,tt_,tt_,tt_,tt_,tt_,tt_,ff_,ff_,ff_,ff_,ff_,ff_,ff_,ff_,ff_,ff_,ff_,ff_,ff_,ff_,ff_,ff_,ff_,ff_,ff_,ff_,ff_,ff_,ff_,ff_,ff_,ff_,ff_,ff_,ff_,ff_,ff_,ff_] rfl rfl (by kernel_rfl) (fun _ _ _ h => h) (Or.inl ⟨by rfl, ?_⟩) hHeld ?_ ?_
    rotate_left
    ·rintro w' ⟨s0, s1⟩
     go_simp
     with_reducible rfl
    rotate_left
    ·simp only [Act.put, List.setIfInBounds_toArray, List.set_cons_zero, List.set_cons_succ, i64_w, i32_w]
     rfl
    refine take_ (i := 11) (N := some 182) (v := ?_) (a' := ?_) #[tt_,tt_,tt_,tt_,tt_,tt_,tt_,tt_,tt_,tt_,tt_,tt_,ff_,ff_,ff_,ff_,ff_,ff_,ff_,ff_,ff_,ff_,ff_,ff_,ff_,ff_,ff_,ff_,ff_,ff_,ff_,ff_,ff_,ff_,ff_,ff_,ff_,ff_,ff_,ff_,ff_,ff_,ff_] rfl rfl (by kernel_rfl) (fun _ _ _ h => h) (Or.inl ⟨by rfl, ?_⟩) hHeld ?_ ?_
    rotate_left
    ·rintro w' ⟨s0, s1⟩
     go_simp
     with_reducible rfl
    rotate_left
    ·simp only [Act.put, List.setIfInBounds_toArray, List.set_cons_zero, List.set_cons_succ, i64_w, i32_w]
     rfl
    refine one_ (i := 12) (N := some 183) #[tt_,tt_,tt_,tt_,tt_,tt_,tt_,tt_,tt_,tt_,tt_,tt_,tt_,ff_,ff_,ff_,ff_,ff_,ff_,ff_,ff_,ff_,ff_,ff_,ff_,ff_,ff_,ff_,ff_,ff_,ff_,ff_,ff_,ff_,ff_,ff_,ff_,ff_,ff_,ff_,ff_,ff_,ff_] rfl rfl (by kernel_rfl) (by decide) (fun K hK => ?_)
    refine goes_ Try.func18 (by kernel_rfl) rfl #[.slice (some bb) m d2, .slice (some aa) m2 d1] (by rfl) rfl rfl (by (try simp only [List.map_toArray, List.map_cons, List.map_nil]); rfl) ?_
    with_reducible refine (same_is HBD.out HCD.out HBC.out HV_.out HU_.out HV.out.2 HU.out.2 HMB.out).mono ?_
    rintro e w20 ⟨rfl, hb⟩
    refine ⟨_, rfl, ?_⟩
    have P20 := Aside0.mk (blk_below P_.out hb)
    have D20 := Aside0.mk (Kd.C_below D_.out hb)
    have V20 := Aside0.mk (Kd.R_below V_.out hb)
    have B20 := Aside0.mk (below_step B_.out hb)
    have E20 := Aside0.mk (Kd.C_below E_.out hb)
    have W20 := Aside0.mk (Kd.R_below W_.out hb)
    have Y0__ := Aside0.mk (cell_below1 hb Y0_.out)
    have Y1__ := Aside0.mk (cell_below1 hb Y1_.out)
    clear hb
    refine hK.out _ _ ⟨Y0__.out, Y1__.out⟩ (fun hHeld => ?_)
    clear hK K
    refine norm_ (a' := ?_) ?_ ?_
    rotate_left
    ·show Act.put _ (some 183) _ = _
     simp only [Act.put, List.setIfInBounds_toArray, List.set_cons_zero, List.set_cons_succ, i64_w, i32_w]
     rfl
    refine pure_ (i := 13) (N := some 184) (v := ?_) (a' := ?_) #[tt_,tt_,tt_,tt_,tt_,tt_,tt_,tt_,tt_,tt_,tt_,tt_,tt_,tt_,ff_,ff_,ff_,ff_,ff_,ff_,ff_,ff_,ff_,ff_,ff_,ff_,ff_,ff_,ff_,ff_,ff_,ff_,ff_,ff_,ff_,ff_,ff_,ff_,ff_,ff_,ff_,ff_,ff_] rfl rfl (by kernel_rfl) (fun _ _ _ h => h) (Or.inl ⟨by rfl, ?_⟩) ?_ ?_
    rotate_left
    ·intro w'
     go_simp
     with_reducible rfl
    rotate_left
    ·simp only [Act.put, List.setIfInBounds_toArray, List.set_cons_zero, List.set_cons_succ, i64_w, i32_w]
     rfl
    refine pure_ (i := 14) (N := some 185) (v := ?_) (a' := ?_) #[tt_,tt_,tt_,tt_,tt_,tt_,tt_,tt_,tt_,tt_,tt_,tt_,tt_,tt_,tt_,ff_,ff_,ff_,ff_,ff_,ff_,ff_,ff_,ff_,ff_,ff_,ff_,ff_,ff_,ff_,ff_,ff_,ff_,ff_,ff_,ff_,ff_,ff_,ff_,ff_,ff_,ff_,ff_] rfl rfl (by kernel_rfl) (fun _ _ _ h => h) (Or.inl ⟨by rfl, ?_⟩) ?_ ?_
    rotate_left
    ·intro w'
     go_simp
     with_reducible rfl
    rotate_left
    ·simp only [Act.put, List.setIfInBounds_toArray, List.set_cons_zero, List.set_cons_succ, i64_w, i32_w]
     rfl
    refine pure_ (i := 15) (N := some 186) (v := ?_) (a' := ?_) #[tt_,tt_,tt_,tt_,tt_,tt_,tt_,tt_,tt_,tt_,tt_,tt_,tt_,tt_,tt_,tt_,ff_,ff_,ff_,ff_,ff_,ff_,ff_,ff_,ff_,ff_,ff_,ff_,ff_,ff_,ff_,ff_,ff_,ff_,ff_,ff_,ff_,ff_,ff_,ff_,ff_,ff_,ff_] rfl rfl (by kernel_rfl) (fun _ _ _ h => h) (Or.inl ⟨by rfl, ?_⟩) ?_ ?_
    rotate_left
    ·intro w'
     go_simp
     with_reducible rfl
    rotate_left
    ·simp only [Act.put, List.setIfInBounds_toArray, List.set_cons_zero, List.set_cons_succ, i64_w, i32_w]
     rfl
    refine pure_ (i := 16) (N := some 187) (v := ?_) (a' := ?_) #[tt_,tt_,tt_,tt_,tt_,tt_,tt_,tt_,tt_,tt_,tt_,tt_,tt_,tt_,tt_,tt_,tt_,ff_,ff_,ff_,ff_,ff_,ff_,ff_,ff_,ff_,ff_,ff_,ff_,ff_,ff_,ff_,ff_,ff_,ff_,ff_,ff_,ff_,ff_,ff_,ff_,ff_,ff_] rfl rfl (by kernel_rfl) (fun _ _ _ h => h) (Or.inl ⟨by rfl, ?_⟩) ?_ ?_
    rotate_left
    ·intro w'
     go_simp
     with_reducible rfl
    rotate_left
    ·simp only [Act.put, List.setIfInBounds_toArray, List.set_cons_zero, List.set_cons_succ, i64_w, i32_w]
     rfl
    refine pure_ (i := 17) (N := some 188) (v := ?_) (a' := ?_) #[tt_,tt_,tt_,tt_,tt_,tt_,tt_,tt_,tt_,tt_,tt_,tt_,tt_,tt_,tt_,tt_,tt_,tt_,ff_,ff_,ff_,ff_,ff_,ff_,ff_,ff_,ff_,ff_,ff_,ff_,ff_,ff_,ff_,ff_,ff_,ff_,ff_,ff_,ff_,ff_,ff_,ff_,ff_] rfl rfl (by kernel_rfl) (fun _ _ _ h => h) (Or.inl ⟨by rfl, ?_⟩) ?_ ?_
    rotate_left
    ·intro w'
     go_simp
     with_reducible rfl
    rotate_left
    ·simp only [Act.put, List.setIfInBounds_toArray, List.set_cons_zero, List.set_cons_succ, i64_w, i32_w]
     rfl
    refine pure_ (i := 18) (N := some 189) (v := ?_) (a' := ?_) #[tt_,tt_,tt_,tt_,tt_,tt_,tt_,tt_,tt_,tt_,tt_,tt_,tt_,tt_,tt_,tt_,tt_,tt_,tt_,ff_,ff_,ff_,ff_,ff_,ff_,ff_,ff_,ff_,ff_,ff_,ff_,ff_,ff_,ff_,ff_,ff_,ff_,ff_,ff_,ff_,ff_,ff_,ff_] rfl rfl (by kernel_rfl) (fun _ _ _ h => h) (Or.inl ⟨by rfl, ?_⟩) ?_ ?_
    rotate_left
    ·intro w'
     go_simp
     with_reducible rfl
    rotate_left
    ·simp only [Act.put, List.setIfInBounds_toArray, List.set_cons_zero, List.set_cons_succ, i64_w, i32_w]
     rfl
    refine pure_ (i := 19) (N := some 190) (v := ?_) (a' := ?_) #[tt_,tt_,tt_,tt_,tt_,tt_,tt_,tt_,tt_,tt_,tt_,tt_,tt_,tt_,tt_,tt_,tt_,tt_,tt_,tt_,ff_,ff_,ff_,ff_,ff_,ff_,ff_,ff_,ff_,ff_,ff_,ff_,ff_,ff_,ff_,ff_,ff_,ff_,ff_,ff_,ff_,ff_,ff_] rfl rfl (by kernel_rfl) (fun _ _ _ h => h) (Or.inl ⟨by rfl, ?_⟩) ?_ ?_
    rotate_left
    ·intro w'
     go_simp
     with_reducible rfl
    rotate_left
    ·simp only [Act.put, List.setIfInBounds_toArray, List.set_cons_zero, List.set_cons_succ, i64_w, i32_w]
     rfl
    refine pure_ (i := 20) (N := some 191) (v := undef) (a' := ?_) #[tt_,tt_,tt_,tt_,tt_,tt_,tt_,tt_,tt_,tt_,tt_,tt_,tt_,tt_,tt_,tt_,tt_,tt_,tt_,tt_,tt_,ff_,ff_,ff_,ff_,ff_,ff_,ff_,ff_,ff_,ff_,ff_,ff_,ff_,ff_,ff_,ff_,ff_,ff_,ff_,ff_,ff_,ff_] rfl rfl (by kernel_rfl) (fun _ _ _ h => h) (Or.inr ⟨by rfl, rfl⟩) ?_ ?_
    rotate_left
    ·simp only [Act.put, List.setIfInBounds_toArray, List.set_cons_zero, List.set_cons_succ, i64_w, i32_w]
     rfl
    refine pure_ (i := 21) (N := some 192) (v := undef) (a' := ?_) #[tt_,tt_,tt_,tt_,tt_,tt_,tt_,tt_,tt_,tt_,tt_,tt_,tt_,tt_,tt_,tt_,tt_,tt_,tt_,tt_,tt_,tt_,ff_,ff_,ff_,ff_,ff_,ff_,ff_,ff_,ff_,ff_,ff_,ff_,ff_,ff_,ff_,ff_,ff_,ff_,ff_,ff_,ff_] rfl rfl (by kernel_rfl) (fun _ _ _ h => h) (Or.inr ⟨by rfl, rfl⟩) ?_ ?_
    rotate_left
    ·simp only [Act.put, List.setIfInBounds_toArray, List.set_cons_zero, List.set_cons_succ, i64_w, i32_w]
     rfl
    refine pure_ (i := 22) (N := some 193) (v := undef) (a' := ?_) #[tt_,tt_,tt_,tt_,tt_,tt_,tt_,tt_,tt_,tt_,tt_,tt_,tt_,tt_,tt_,tt_,tt_,tt_,tt_,tt_,tt_,tt_,tt_,ff_,ff_,ff_,ff_,ff_,ff_,ff_,ff_,ff_,ff_,ff_,ff_,ff_,ff_,ff_,ff_,ff_,ff_,ff_,ff_] rfl rfl (by kernel_rfl) (fun _ _ _ h => h) (Or.inr ⟨by rfl, rfl⟩) ?_ ?_
    rotate_left
    ·simp only [Act.put, List.setIfInBounds_toArray, List.set_cons_zero, List.set_cons_succ, i64_w, i32_w]
     rfl
    refine pure_ (i := 23) (N := some 194) (v := undef) (a' := ?_) #[tt_,tt_,tt_,tt_,tt_,tt_,tt_,tt_,tt_,tt_,tt_,tt_,tt_,tt_,tt_,tt_,tt_,tt_,tt_,tt_,tt_,tt_,tt_,tt_,ff_,ff_,ff_,ff_,ff_,ff_,ff_,ff_,ff_,ff_,ff_,ff_,ff_,ff_,ff_,ff_,ff_,ff_,ff_] rfl rfl (by kernel_rfl) (fun _ _ _ h => h) (Or.inr ⟨by rfl, rfl⟩) ?_ ?_
    rotate_left
    ·simp only [Act.put, List.setIfInBounds_toArray, List.set_cons_zero, List.set_cons_succ, i64_w, i32_w]
     rfl
    refine pure_ (i := 24) (N := some 195) (v := undef) (a' := ?_) #[tt_,tt_,tt_,tt_,tt_,tt_,tt_,tt_,tt_,tt_,tt_,tt_,tt_,tt_,tt_,tt_,tt_,tt_,tt_,tt_,tt_,tt_,tt_,tt_,tt_,ff_,ff_,ff_,ff_,ff_,ff_,ff_,ff_,ff_,ff_,ff_,ff_,ff_,ff_,ff_,ff_,ff_,ff_] rfl rfl (by kernel_rfl) (fun _ _ _ h => h) (Or.inr ⟨by rfl, rfl⟩) ?_ ?_
    rotate_left
    ·simp only [Act.put, List.setIfInBounds_toArray, List.set_cons_zero, List.set_cons_succ, i64_w, i32_w]
     rfl
    refine pure_ (i := 25) (N := some 196) (v := undef) (a' := ?_) #[tt_,tt_,tt_,tt_,tt_,tt_,tt_,tt_,tt_,tt_,tt_,tt_,tt_,tt_,tt_,tt_,tt_,tt_,tt_,tt_,tt_,tt_,tt_,tt_,tt_,tt_,ff_,ff_,ff_,ff_,ff_,ff_,ff_,ff_,ff_,ff_,ff_,ff_,ff_,ff_,ff_,ff_,ff_] rfl rfl (by kernel_rfl) (fun _ _ _ h => h) (Or.inr ⟨by rfl, rfl⟩) ?_ ?_
    rotate_left
    ·simp only [Act.put, List.setIfInBounds_toArray, List.set_cons_zero, List.set_cons_succ, i64_w, i32_w]
     rfl
    refine pure_ (i := 26) (N := some 197) (v := undef) (a' := ?_) #[tt_,tt_,tt_,tt_,tt_,tt_,tt_,tt_,tt_,tt_,tt_,tt_,tt_,tt_,tt_,tt_,tt_,tt_,tt_,tt_,tt_,tt_,tt_,tt_,tt_,tt_,tt_,ff_,ff_,ff_,ff_,ff_,ff_,ff_,ff_,ff_,ff_,ff_,ff_,ff_,ff_,ff_,ff_] rfl rfl (by kernel_rfl) (fun _ _ _ h => h) (Or.inr ⟨by rfl, rfl⟩) ?_ ?_
    rotate_left
    ·simp only [Act.put, List.setIfInBounds_toArray, List.set_cons_zero, List.set_cons_succ, i64_w, i32_w]
     rfl
    refine pure_ (i := 27) (N := some 198) (v := undef) (a' := ?_) #[tt_,tt_,tt_,tt_,tt_,tt_,tt_,tt_,tt_,tt_,tt_,tt_,tt_,tt_,tt_,tt_,tt_,tt_,tt_,tt_,tt_,tt_,tt_,tt_,tt_,tt_,tt_,tt_,ff_,ff_,ff_,ff_,ff_,ff_,ff_,ff_,ff_,ff_,ff_,ff_,ff_,ff_,ff_] rfl rfl (by kernel_rfl) (fun _ _ _ h => h) (Or.inr ⟨by rfl, rfl⟩) ?_ ?_
    rotate_left
    ·simp only [Act.put, List.setIfInBounds_toArray, List.set_cons_zero, List.set_cons_succ, i64_w, i32_w]
     rfl
    refine pure_ (i := 28) (N := some 199) (v := undef) (a' := ?_) #[tt_,tt_,tt_,tt_,tt_,tt_,tt_,tt_,tt_,tt_,tt_,tt_,tt_,tt_,tt_,tt_,tt_,tt_,tt_,tt_,tt_,tt_,tt_,tt_,tt_,tt_,tt_,tt_,tt_,ff_,ff_,ff_,ff_,ff_,ff_,ff_,ff_,ff_,ff_,ff_,ff_,ff_,ff_] rfl rfl (by kernel_rfl) (fun _ _ _ h => h) (Or.inr ⟨by rfl, rfl⟩) ?_ ?_
    rotate_left
    ·simp only [Act.put, List.setIfInBounds_toArray, List.set_cons_zero, List.set_cons_succ, i64_w, i32_w]
     rfl
    refine pure_ (i := 29) (N := some 200) (v := undef) (a' := ?_) #[tt_,tt_,tt_,tt_,tt_,tt_,tt_,tt_,tt_,tt_,tt_,tt_,tt_,tt_,tt_,tt_,tt_,tt_,tt_,tt_,tt_,tt_,tt_,tt_,tt_,tt_,tt_,tt_,tt_,tt_,ff_,ff_,ff_,ff_,ff_,ff_,ff_,ff_,ff_,ff_,ff_,ff_,ff_] rfl rfl (by kernel_rfl) (fun _ _ _ h => h) (Or.inr ⟨by rfl, rfl⟩) ?_ ?_
    rotate_left
    ·simp only [Act.put, List.setIfInBounds_toArray, List.set_cons_zero, List.set_cons_succ, i64_w, i32_w]
     rfl
    refine pure_ (i := 30) (N := some 201) (v := undef) (a' := ?_) #[tt_,tt_,tt_,tt_,tt_,tt_,tt_,tt_,tt_,tt_,tt_,tt_,tt_,tt_,tt_,tt_,tt_,tt_,tt_,tt_,tt_,tt_,tt_,tt_,tt_,tt_,tt_,tt_,tt_,tt_,tt_,ff_,ff_,ff_,ff_,ff_,ff_,ff_,ff_,ff_,ff_,ff_,ff_] rfl rfl (by kernel_rfl) (fun _ _ _ h => h) (Or.inr ⟨by rfl, rfl⟩) ?_ ?_
    rotate_left
    ·simp only [Act.put, List.setIfInBounds_toArray, List.set_cons_zero, List.set_cons_succ, i64_w, i32_w]
     rfl
    refine pure_ (i := 31) (N := some 202) (v := undef) (a' := ?_) #[tt_,tt_,tt_,tt_,tt_,tt_,tt_,tt_,tt_,tt_,tt_,tt_,tt_,tt_,tt_,tt_,tt_,tt_,tt_,tt_,tt_,tt_,tt_,tt_,tt_,tt_,tt_,tt_,tt_,tt_,tt_,tt_,ff_,ff_,ff_,ff_,ff_,ff_,ff_,ff_,ff_,ff_,ff_] rfl rfl (by kernel_rfl) (fun _ _ _ h => h) (Or.inr ⟨by rfl, rfl⟩) ?_ ?_
    rotate_left
    ·simp only [Act.put, List.setIfInBounds_toArray, List.set_cons_zero, List.set_cons_succ, i64_w, i32_w]
     rfl
    refine pure_ (i := 32) (N := some 203) (v := undef) (a' := ?_) #[tt_,tt_,tt_,tt_,tt_,tt_,tt_,tt_,tt_,tt_,tt_,tt_,tt_,tt_,tt_,tt_,tt_,tt_,tt_,tt_,tt_,tt_,tt_,tt_,tt_,tt_,tt_,tt_,tt_,tt_,tt_,tt_,tt_,ff_,ff_,ff_,ff_,ff_,ff_,ff_,ff_,ff_,ff_] rfl rfl (by kernel_rfl) (fun _ _ _ h => h) (Or.inr ⟨by rfl, rfl⟩) ?_ ?_
    rotate_left
    ·simp only [Act.put, List.setIfInBounds_toArray, List.set_cons_zero, List.set_cons_succ, i64_w, i32_w]
     rfl
    refine pure_ (i := 33) (N := some 204) (v := undef) (a' := ?_) #[tt_,tt_,tt_,tt_,tt_,tt_,tt_,tt_,tt_,tt_,tt_,tt_,tt_,tt_,tt_,tt_,tt_,tt_,tt_,tt_,tt_,tt_,tt_,tt_,tt_,tt_,tt_,tt_,tt_,tt_,tt_,tt_,tt_,tt_,ff_,ff_,ff_,ff_,ff_,ff_,ff_,ff_,ff_] rfl rfl (by kernel_rfl) (fun _ _ _ h => h) (Or.inr ⟨by rfl, rfl⟩) ?_ ?_
    rotate_left
    ·simp only [Act.put, List.setIfInBounds_toArray, List.set_cons_zero, List.set_cons_succ, i64_w, i32_w]
     rfl
    refine pure_ (i := 34) (N := some 205) (v := undef) (a' := ?_) #[tt_,tt_,tt_,tt_,tt_,tt_,tt_,tt_,tt_,tt_,tt_,tt_,tt_,tt_,tt_,tt_,tt_,tt_,tt_,tt_,tt_,tt_,tt_,tt_,tt_,tt_,tt_,tt_,tt_,tt_,tt_,tt_,tt_,tt_,tt_,ff_,ff_,ff_,ff_,ff_,ff_,ff_,ff_] rfl rfl (by kernel_rfl) (fun _ _ _ h => h) (Or.inr ⟨by rfl, rfl⟩) ?_ ?_
    rotate_left
    ·simp only [Act.put, List.setIfInBounds_toArray, List.set_cons_zero, List.set_cons_succ, i64_w, i32_w]
     rfl
    refine pure_ (i := 35) (N := some 206) (v := undef) (a' := ?_) #[tt_,tt_,tt_,tt_,tt_,tt_,tt_,tt_,tt_,tt_,tt_,tt_,tt_,tt_,tt_,tt_,tt_,tt_,tt_,tt_,tt_,tt_,tt_,tt_,tt_,tt_,tt_,tt_,tt_,tt_,tt_,tt_,tt_,tt_,tt_,tt_,ff_,ff_,ff_,ff_,ff_,ff_,ff_] rfl rfl (by kernel_rfl) (fun _ _ _ h => h) (Or.inr ⟨by rfl, rfl⟩) ?_ ?_
    rotate_left
    ·simp only [Act.put, List.setIfInBounds_toArray, List.set_cons_zero, List.set_cons_succ, i64_w, i32_w]
     rfl
    refine pure_ (i := 36) (N := some 207) (v := undef) (a' := ?_) #[tt_,tt_,tt_,tt_,tt_,tt_,tt_,tt_,tt_,tt_,tt_,tt_,tt_,tt_,tt_,tt_,tt_,tt_,tt_,tt_,tt_,tt_,tt_,tt_,tt_,tt_,tt_,tt_,tt_,tt_,tt_,tt_,tt_,tt_,tt_,tt_,tt_,ff_,ff_,ff_,ff_,ff_,ff_] rfl rfl (by kernel_rfl) (fun _ _ _ h => h) (Or.inr ⟨by rfl, rfl⟩) ?_ ?_
    rotate_left
    ·simp only [Act.put, List.setIfInBounds_toArray, List.set_cons_zero, List.set_cons_succ, i64_w, i32_w]
     rfl
    refine pure_ (i := 37) (N := some 208) (v := undef) (a' := ?_) #[tt_,tt_,tt_,tt_,tt_,tt_,tt_,tt_,tt_,tt_,tt_,tt_,tt_,tt_,tt_,tt_,tt_,tt_,tt_,tt_,tt_,tt_,tt_,tt_,tt_,tt_,tt_,tt_,tt_,tt_,tt_,tt_,tt_,tt_,tt_,tt_,tt_,tt_,ff_,ff_,ff_,ff_,ff_] rfl rfl (by kernel_rfl) (fun _ _ _ h => h) (Or.inr ⟨by rfl, rfl⟩) ?_ ?_
    rotate_left
    ·simp only [Act.put, List.setIfInBounds_toArray, List.set_cons_zero, List.set_cons_succ, i64_w, i32_w]
     rfl
    refine pure_ (i := 38) (N := some 209) (v := undef) (a' := ?_) #[tt_,tt_,tt_,tt_,tt_,tt_,tt_,tt_,tt_,tt_,tt_,tt_,tt_,tt_,tt_,tt_,tt_,tt_,tt_,tt_,tt_,tt_,tt_,tt_,tt_,tt_,tt_,tt_,tt_,tt_,tt_,tt_,tt_,tt_,tt_,tt_,tt_,tt_,tt_,ff_,ff_,ff_,ff_] rfl rfl (by kernel_rfl) (fun _ _ _ h => h) (Or.inr ⟨by rfl, rfl⟩) ?_ ?_
    rotate_left
    ·simp only [Act.put, List.setIfInBounds_toArray, List.set_cons_zero, List.set_cons_succ, i64_w, i32_w]
     rfl
    refine pure_ (i := 39) (N := some 210) (v := undef) (a' := ?_) #[tt_,tt_,tt_,tt_,tt_,tt_,tt_,tt_,tt_,tt_,tt_,tt_,tt_,tt_,tt_,tt_,tt_,tt_,tt_,tt_,tt_,tt_,tt_,tt_,tt_,tt_,tt_,tt_,tt_,tt_,tt_,tt_,tt_,tt_,tt_,tt_,tt_,tt_,tt_,tt_,ff_,ff_,ff_] rfl rfl (by kernel_rfl) (fun _ _ _ h => h) (Or.inr ⟨by rfl, rfl⟩) ?_ ?_
    rotate_left
    ·simp only [Act.put, List.setIfInBounds_toArray, List.set_cons_zero, List.set_cons_succ, i64_w, i32_w]
     rfl
    refine pure_ (i := 40) (N := some 211) (v := undef) (a' := ?_) #[tt_,tt_,tt_,tt_,tt_,tt_,tt_,tt_,tt_,tt_,tt_,tt_,tt_,tt_,tt_,tt_,tt_,tt_,tt_,tt_,tt_,tt_,tt_,tt_,tt_,tt_,tt_,tt_,tt_,tt_,tt_,tt_,tt_,tt_,tt_,tt_,tt_,tt_,tt_,tt_,tt_,ff_,ff_] rfl rfl (by kernel_rfl) (fun _ _ _ h => h) (Or.inr ⟨by rfl, rfl⟩) ?_ ?_
    rotate_left
    ·simp only [Act.put, List.setIfInBounds_toArray, List.set_cons_zero, List.set_cons_succ, i64_w, i32_w]
     rfl
    refine pure_ (i := 41) (N := some 212) (v := ?_) (a' := ?_) #[tt_,tt_,tt_,tt_,tt_,tt_,tt_,tt_,tt_,tt_,tt_,tt_,tt_,tt_,tt_,tt_,tt_,tt_,tt_,tt_,tt_,tt_,tt_,tt_,tt_,tt_,tt_,tt_,tt_,tt_,tt_,tt_,tt_,tt_,tt_,tt_,tt_,tt_,tt_,tt_,tt_,tt_,ff_] rfl rfl (by kernel_rfl) (fun _ _ _ h => h) (Or.inl ⟨by rfl, ?_⟩) ?_ ?_
    rotate_left
    ·intro w'
     go_simp
     with_reducible rfl
    rotate_left
    ·simp only [Act.put, List.setIfInBounds_toArray, List.set_cons_zero, List.set_cons_succ, i64_w, i32_w]
     rfl
    refine pure_ (i := 42) (N := some 213) (v := ?_) (a' := ?_) #[tt_,tt_,tt_,tt_,tt_,tt_,tt_,tt_,tt_,tt_,tt_,tt_,tt_,tt_,tt_,tt_,tt_,tt_,tt_,tt_,tt_,tt_,tt_,tt_,tt_,tt_,tt_,tt_,tt_,tt_,tt_,tt_,tt_,tt_,tt_,tt_,tt_,tt_,tt_,tt_,tt_,tt_,tt_] rfl rfl (by kernel_rfl) (fun _ _ _ h => h) (Or.inl ⟨by rfl, ?_⟩) ?_ ?_
    rotate_left
    ·intro w'
     go_simp
     with_reducible rfl
    rotate_left
    ·simp only [Act.put, List.setIfInBounds_toArray, List.set_cons_zero, List.set_cons_succ, i64_w, i32_w]
     rfl
    refine done_ (by kernel_rfl) ?_
    clear j1 j2 hHeld k1 k2
    have hlt := HLK.out
    have hkb := HK4.out
    go_wp2
    go_roundw
    case measure => simp [intOf]; omega
    case rel => exact ⟨i + 1, by omega, by go_num, ⟨P20.out, D20.out, V20.out, B20.out, E20.out, W20.out⟩⟩
  ·obtain rfl : i = K := by omega
   have c1 : decide ((i : Int) < (i : Int)) = false := decide_eq_false (by omega)
   clear hlt
   go_wp2
   go_ret
   exact ⟨rfl, B8.out⟩
end Go.Proofs.Ytbbebhdcfopmmaa.A
end
section
set_option linter.unusedVariables false
set_option linter.unusedSimpArgs false
namespace Go.Proofs.Ytbbebhdcfopmmaa.A
open Go.RowKit Go.Proofs.YtbbebhdcfopmmaaW.PrintWords Go.Proofs.YtbbebhdcfopmmaaW.PrintLast Go.Proofs.YtbbebhdcfopmmaaW.PrintMore Go.Proofs.Ytbbebhdcfopmmaa.PCodecNames

set_option maxHeartbeats 16000000 in
set_option maxRecDepth 100000 in
theorem codecLocal0 (sp sd : Int) (A : Option Addr) (cap n : Nat) (l : List S31) (pn at_ : Int) (s : Nat) (w : World) (hn : l.length = n) (hC : Kd.C k31 w A n l) (hcap : n ≤ cap) (hn2 : n < 4611686018427387904) (hs : fewTo l (min n 100) < 4611686018427387904) (hc : ∀ i : Nat, i < n → (rd_T31 l (i : Int)).f2.length < 4611686018427387904) (hs4 : s < 4294967296) (hb : fewB l = false ∨ encE sp l sd ≠ 0) :
    Calls Try.prog 13 #[.agg #[.int .i64 sp, .slice A n cap], .int .i64 sd, .int .i64 pn, .int .i64 at_, .int .u32 (s : Int)] w fun e w' => e = .returned (.bool true) ∧ Below w.heap.size w w' := by
 have hu47 := Try.underlying47
 have hu73 := Try.underlying73
 have HN := Aside0.mk hn
 have HC := Aside0.mk hC
 have HN2 := Aside0.mk hn2
 have HLC := Aside0.mk hc
 have HCAP := Aside0.mk hcap
 have HS := Aside0.mk hs
 clear hn hC hn2 hc hcap hs
 by_cases hf : fewB l = false
 ·have HZ := Aside0.mk hf
  clear hb hf
  go_enter Try.func13, Try.ntmps13
  go_wp2_with (first | ((with_reducible refine gate_dst (N := 5) rfl ?_); refine box_event ?hg (N := 5) ?hd (cs := #[.int .i64 sp, .slice A n cap]) (t := 47) ?hr ?_; (case hd => rfl); (case hg => rfl); (case hr => first | (go_simp; done) | (go_simp; rfl)); intro gP hg_ w1 hm_ hb_; have P1 := Aside0.mk (hm_); have B1 := Aside0.mk (hb_); clear hm_ hb_ hg_) | (go_at_call 15; refine (known_calls _).mono ?_; rintro e w2 ⟨rfl, hb⟩; have P2 := Aside0.mk (blk_below P1.out hb); have B2 := Aside0.mk (below_step B1.out hb); have p0 := (blk_cell P2.out 0).trans rfl; have p1 := (blk_cell P2.out 1).trans rfl; clear hb) | (go_at_call 28; with_reducible refine (few_any sp A cap n l _ HN.out (Kd.C_below HC.out B2.out) HS.out HZ.out).mono ?_; rintro e w3 ⟨rfl, hb⟩; have P3 := Aside0.mk (blk_below P2.out hb); have B3 := Aside0.mk (below_step B2.out hb); have p0 := (blk_cell P3.out 0).trans rfl; have p1 := (blk_cell P3.out 1).trans rfl; clear hb))
  go_ret
  exact ⟨rfl, B3.out⟩
 ·have HZ : Aside0 (fewB l = true) := ⟨by cases h : fewB l <;> simp_all⟩
  obtain ⟨z, hz⟩ : ∃ z, encE sp l sd = z := ⟨_, rfl⟩
  have h0 : z ≠ 0 := by rcases hb with h | h; exact absurd h hf; rw [← hz]; exact h
  have HZE := Aside0.mk hz
  have HZN := Aside0.mk h0
  have t0 : ((z : Int) != 0) = true := by rw [bne_iff_ne]; omega
  have t0' : (z != 0) = true := by rw [bne_iff_ne]; exact h0
  clear hb hf hz h0
  go_enter Try.func13, Try.ntmps13
  go_wp2_with (first | ((with_reducible refine gate_dst (N := 5) rfl ?_); refine box_event ?hg (N := 5) ?hd (cs := #[.int .i64 sp, .slice A n cap]) (t := 47) ?hr ?_; (case hd => rfl); (case hg => rfl); (case hr => first | (go_simp; done) | (go_simp; rfl)); intro gP hg_ w1 hm_ hb_; have P1 := Aside0.mk (hm_); have B1 := Aside0.mk (hb_); clear hm_ hb_ hg_) | (go_at_call 15; refine (known_calls _).mono ?_; rintro e w2 ⟨rfl, hb⟩; have P2 := Aside0.mk (blk_below P1.out hb); have B2 := Aside0.mk (below_step B1.out hb); have p0 := (blk_cell P2.out 0).trans rfl; have p1 := (blk_cell P2.out 1).trans rfl; clear hb) | (go_at_call 28; with_reducible refine (few_any sp A cap n l _ HN.out (Kd.C_below HC.out B2.out) HS.out HZ.out).mono ?_; rintro e w3 ⟨rfl, hb⟩; have P3 := Aside0.mk (blk_below P2.out hb); have B3 := Aside0.mk (below_step B2.out hb); have p0 := (blk_cell P3.out 0).trans rfl; have p1 := (blk_cell P3.out 1).trans rfl; clear hb) | (go_at_call 31; with_reducible refine (Encode_bad2 sp sd A cap n l _ HN.out (Kd.C_below HC.out B3.out) HCAP.out HN2.out HLC.out HZE.out HZN.out).mono ?_; rintro e w4 ⟨rfl, hb⟩; have B4 := Aside0.mk (below_step B3.out hb); clear hb))
  go_ret
  exact ⟨rfl, B4.out⟩
theorem codecLocal (sp sd : Int) (A : Option Addr) (cap n : Nat) (l : List S31) (pn at_ : Int) (s : Nat) (w : World) (hn : l.length = n) (hC : Kd.C k31 w A n l) (hcap : n ≤ cap) (hx : ∀ x ∈ l, ∀ z ∈ x.f2, 0 ≤ z ∧ z < 4294967296) (hb : fewTo l n ≤ 1048576) (hc : ∀ i : Nat, i < n → (rd_T31 l (i : Int)).f2.length ≤ 1048576) (hs4 : s < 4294967296) :
    Calls Try.prog 13 #[.agg #[.int .i64 sp, .slice A n cap], .int .i64 sd, .int .i64 pn, .int .i64 at_, .int .u32 (s : Int)] w fun e w' => e = .returned (.bool true) ∧ Below w.heap.size w w' := by
 have h1 : n ≤ 1048576 := by
  have := fewTo_le l (Nat.zero_le n)
  have e : fewTo l 0 = n := hn
  omega
 have h2 : fewTo l (min n 100) < 4611686018427387904 := by
  have := fewTo_le l (Nat.min_le_left n 100)
  omega
 have h3 : ∀ i : Nat, i < n → (rd_T31 l (i : Int)).f2.length < 4611686018427387904 := fun i hi => by have := hc i hi; omega
 by_cases hf : fewB l = false
 ·exact codecLocal0 sp sd A cap n l pn at_ s w hn hC hcap (by omega) h2 h3 hs4 (.inl hf)
 by_cases he : encE sp l sd = 0
 ·obtain ⟨g1, g2, g3⟩ := encE_zero he
  obtain ⟨p, rfl, rfl, hp⟩ := pic_of g1 hx
  obtain ⟨S, rfl⟩ : ∃ S : Nat, sd = (S : Int) := ⟨sd.toNat, by omega⟩
  exact codecLocal1 p S A cap n p.s31s pn at_ s w hn rfl hp (by omega) (by omega) hC hcap (by simpa using hf) h2 hs4
 ·exact codecLocal0 sp sd A cap n l pn at_ s w hn hC hcap (by omega) h2 h3 hs4 (.inr he)
end Go.Proofs.Ytbbebhdcfopmmaa.A
end
