import Derived.Test.YtkicfaboibfbpaaZ2
import Derived.Lib.SliceRun
import Derived.WalkSpells
section
set_option linter.unusedVariables false
set_option linter.unusedSimpArgs false
namespace Go.Proofs.Ytkicfaboibfbpaa.A
open Go.RowKit Go.Proofs.YtkicfaboibfbpaaW.PrintWords Go.Proofs.YtkicfaboibfbpaaW.PrintLast Go.Proofs.YtkicfaboibfbpaaW.PrintMore Go.Proofs.Ytkicfaboibfbpaa.PCurveAts
section
variable {P : Program} {ops : Array Oper} {Q : Exit → Act → World → Prop} {o : Oper} {rest : List Oper} {a : Act}
theorem cell_after {W : World} {g : Nat} {cells : Array Value} {ty : TypeId} (i : Nat) (u : Value) (hg : W.heap[g]? = some (.cells cells ty (0, 0))) : (W.setCell ⟨g, i, none⟩ u).heap[g]? = some (.cells (cells.setIfInBounds i u) ty (0, 0)) ∧ (∀ k, k ≠ g → (W.setCell ⟨g, i, none⟩ u).heap[k]? = W.heap[k]?) ∧ (∀ B, B ≤ g → Below B W (W.setCell ⟨g, i, none⟩ u)) :=
 ⟨blk_set hg i u, fun k hk => Below.heap_setCell W _ u k hk, fun B hB => ⟨rfl, rfl, rfl, by simp [World.setCell], fun k hk => Below.heap_setCell W _ u k (by simp; omega)⟩⟩
theorem storec_run {W : World} {t : TypeId} {g i : Nat} {u : Value} {cells : Array Value} {ty : TypeId} (hu : u.cells = #[u]) (hg : W.heap[g]? = some (.cells cells ty (0, 0))) (ht : (P.info? t).map (·.size) = some 1) (hi : i < cells.size) (h1 : u.oneCell' = true) :
    (Instr.storeAt t (.pointer (some ⟨g, i, none⟩)) u).run P W = .ok () (W.setCell ⟨g, i, none⟩ u) :=
 run_store_run t u [u] hg (by rw [hu]) ht (by simp only [List.length_cons, List.length_nil]; omega) (by simpa using h1)
/-- a store of one cell -/
theorem storec_event {W : World} (hgd : o.guard = none) (hd : o.dst = none) {t : TypeId} {p v : Operand} (ho : o.op = .store t p v) (g i : Nat) (u : Value) (cells : Array Value) (ty : TypeId) (hp : a.eval p = .pointer (some ⟨g, i, none⟩)) (hv : a.eval v = u) (hu : u.cells = #[u]) (hg : W.heap[g]? = some (.cells cells ty (0, 0)))
    (ht : (P.info? t).map (·.size) = some 1) (hi : i < cells.size) (h1 : u.oneCell' = true)
    (h : ∀ w1, w1.heap[g]? = some (.cells (cells.setIfInBounds i u) ty (0, 0)) → (∀ k, k ≠ g → w1.heap[k]? = W.heap[k]?) → (∀ B, B ≤ g → Below B W w1) → wpList P ops Q rest a w1) : wpList P ops Q (o :: rest) a W := by
 obtain ⟨r1, r2, r3⟩ := cell_after i u hg
 refine wpList_plain hgd fun K hK => ?_
 unfold Oper.wp execOp
 simp only [ho, hp, hv, Sem.run_bind, Sem.run_pure, Result.andThen_ok, storec_run hu hg ht hi h1]
 show K (a.put o.dst undef) _
 rw [hd]
 exact hK _ _ (h _ r1 r2 r3)
variable {w : World} {K : Act → World → Prop}
end
theorem size3 : (Try.prog.info? 3).map (·.size) = some 1 := by kernel_rfl
theorem size30 : (Try.prog.info? 30).map (·.size) = some 1 := by kernel_rfl
theorem size4 : (Try.prog.info? 4).map (·.size) = some 1 := by kernel_rfl
theorem size32 : (Try.prog.info? 32).map (·.size) = some 3 := by kernel_rfl
section
variable {o : Oper} {a : Act}
theorem load32 {p : Operand} (ho : o.op = .load 32 p) {g : Nat} (hp : a.eval p = .pointer (some ⟨g, 0, none⟩)) {x y z : Value} {W : World} (hg : W.heap[g]? = some (.cells #[x, y, z] 32 (0, 0))) : (execOp a.eval o).run Try.prog W = .ok (.value (.agg #[x, y, z])) W := by
 have hu := Try.underlying32
 have p0 := (blk_cell hg 0).trans rfl
 have p1 := (blk_cell hg 1).trans rfl
 have p2 := (blk_cell hg 2).trans rfl
 unfold execOp
 simp only [ho, hp]
 go_simp
end
set_option maxHeartbeats 4000000 in
theorem first_nanc (g lo hi y : Nat) (F : Nat → Nat) (w : World) (hlo : lo < 4294967296) (hhi : hi < 4294967296) (hy : y < 4294967296) (hF : ∀ x, x < 4294967296 → F x < 4294967296) (hA : ∀ (W : World) (x : Nat), x < 4294967296 → Below w.heap.size w W → Calls Try.prog 17 #[.pointer (some ⟨g, 0, none⟩), .int .u32 (x : Int)] W fun e w' => e = .returned (.int .u32 ((F x : Nat) : Int)) ∧ Below W.heap.size W w') (c0 : isnan y = true) :
    Calls Try.prog 41 #[.iface 26 (.pointer (some ⟨g, 0, none⟩)), .int .u32 (lo : Int), .int .u32 (hi : Int), .int .u32 (y : Int)] w fun e w' => e = .returned (.tuple #[.agg #[.int .u32 0, .int .u32 0, .bool false], .int .i64 43]) ∧ Below w.heap.size w w' := by
 have HA := Aside0.mk hA
 have HY := Aside0.mk hy
 have HLO := Aside0.mk hlo
 have HHI := Aside0.mk hhi
 have HF := Aside0.mk hF
 have B_0 : Aside0 (Below w.heap.size w w) := ⟨Below.refl _ _⟩
 clear hlo hhi hy hF hA
 go_enter Try.func41, Try.ntmps41
 go_wp2_with (first | ((with_reducible refine gate_dst (N := 4) rfl ?_); refine box_event ?hg (N := 4) ?hd (cs := #[.iface 26 (.pointer (some ⟨g, 0, none⟩))]) (t := 86) ?hr ?_; (case hd => rfl); (case hg => rfl); (case hr => first | (go_simp; done) | (go_simp; rfl)); intro bf hg_ w1 hm_ hb_; have GF := Aside0.mk (show w.heap.size ≤ bf by rw [hg_]; exact B_0.out.size); have B_1 := Aside0.mk (below_step B_0.out hb_); have F_1 := Aside0.mk (hm_); clear hm_ hb_ hg_) | ((with_reducible refine gate_dst (N := 7) rfl ?_); refine box_event ?hg (N := 7) ?hd (cs := #[.int .u32 (y : Int)]) (t := 30) ?hr ?_; (case hd => rfl); (case hg => rfl); (case hr => first | (go_simp; done) | (go_simp; rfl)); intro bq hg_ w2 hm_ hb_; have NEFY := Aside0.mk (show bf ≠ bq by rw [hg_]; have := blk_lt F_1.out; omega); have GY := Aside0.mk (show w.heap.size ≤ bq by rw [hg_]; exact B_1.out.size); have B_2 := Aside0.mk (below_step B_1.out hb_); have F_2 := Aside0.mk (blk_below F_1.out hb_); clear F_1; have Y_2 := Aside0.mk (hm_); clear hm_ hb_ hg_) | ((with_reducible refine gate_dst (N := 8) rfl ?_); refine box_event ?hg (N := 8) ?hd (cs := #[.int .u32 0, .int .u32 0, .bool false]) (t := 32) ?hr ?_; (case hd => rfl); (case hg => rfl); (case hr => first | (go_simp; done) | (go_simp; rfl)); intro gr hg_ w3 hm_ hb_; have NEFR := Aside0.mk (show bf ≠ gr by rw [hg_]; have := blk_lt F_2.out; omega); have NEYR := Aside0.mk (show bq ≠ gr by rw [hg_]; have := blk_lt Y_2.out; omega); have GR := Aside0.mk (show w.heap.size ≤ gr by rw [hg_]; exact B_2.out.size); have B_3 := Aside0.mk (below_step B_2.out hb_); have F_3 := Aside0.mk (blk_below F_2.out hb_); have Y_3 := Aside0.mk (blk_below Y_2.out hb_); clear F_2 Y_2; have R_3 := Aside0.mk (hm_); clear hm_ hb_ hg_))
 have B_4 : Aside0 (Below w.heap.size w w3.drew) := ⟨below_drew B_3.out⟩
 have F_4 := Aside0.mk (blk_drew F_3.out)
 have Y_4 := Aside0.mk (blk_drew Y_3.out)
 have R_4 := Aside0.mk (blk_drew R_3.out)
 clear B_3 F_3 Y_3 R_3
 refine start_ (n := 9) (S := fun w' => w'.cell? ⟨bf, 0, none⟩ = some (.iface 26 (.pointer (some ⟨g, 0, none⟩))) ∧ w'.cell? ⟨bq, 0, none⟩ = some (.int .u32 (y : Int))) (ds := []) #[ff_,ff_,ff_,ff_,ff_,ff_,ff_,ff_,ff_] (by kernel_rfl) rfl rfl ⟨(blk_cell F_4.out 0).trans rfl, (blk_cell Y_4.out 0).trans rfl⟩ (fun hHeld => ?_)
 generalize w3.drew = w4 at *
 refine take_ (i := 0) (N := some 14) (v := ?_) (a' := ?_) #[tt_,ff_,ff_,ff_,ff_,ff_,ff_,ff_,ff_] rfl rfl (by kernel_rfl) (fun _ _ _ h => h) (Or.inl ⟨by rfl, ?_⟩) hHeld ?_ ?_
 rotate_left
 ·rintro w' ⟨s0, s1⟩
  go_simp
  with_reducible rfl
 rotate_left
 ·simp only [Act.put, List.setIfInBounds_toArray, List.set_cons_zero, List.set_cons_succ, i64_w, i32_w]
  rfl
 refine one_ (i := 1) (N := some 15) #[tt_,tt_,ff_,ff_,ff_,ff_,ff_,ff_,ff_] rfl rfl (by kernel_rfl) (by decide) (fun K hK => ?_)
 refine goes_ Try.func44 (by kernel_rfl) rfl #[.int .u32 (y : Int)] (by rfl) rfl rfl (by (try simp only [List.map_toArray, List.map_cons, List.map_nil]); rfl) ?_
 with_reducible refine (IsNaN_calls y HY.out _).mono ?_
 rw [c0]
 rintro e w5 ⟨rfl, hb⟩
 refine ⟨_, rfl, ?_⟩
 have B_5 := Aside0.mk (below_step B_4.out hb)
 have F_5 := Aside0.mk (blk_below F_4.out hb)
 have Y_5 := Aside0.mk (blk_below Y_4.out hb)
 have R_5 := Aside0.mk (blk_below R_4.out hb)
 clear F_4 Y_4 R_4
 clear hb
 refine hK.out _ _ ⟨(blk_cell F_5.out 0).trans rfl, (blk_cell Y_5.out 0).trans rfl⟩ (fun hHeld => ?_)
 clear hK K
 refine norm_ (a' := ?_) ?_ ?_
 rotate_left
 ·show Act.put _ (some 15) _ = _
  simp only [Act.put, List.setIfInBounds_toArray, List.set_cons_zero, List.set_cons_succ, i64_w, i32_w]
  rfl
 refine pure_ (i := 2) (N := some 16) (v := ?_) (a' := ?_) #[tt_,tt_,tt_,ff_,ff_,ff_,ff_,ff_,ff_] rfl rfl (by kernel_rfl) (fun _ _ _ h => h) (Or.inl ⟨by rfl, ?_⟩) ?_ ?_
 rotate_left
 ·intro w'
  go_simp
  with_reducible rfl
 rotate_left
 ·simp only [Act.put, List.setIfInBounds_toArray, List.set_cons_zero, List.set_cons_succ, i64_w, i32_w]
  rfl
 refine pure_ (i := 3) (N := some 17) (v := undef) (a' := ?_) #[tt_,tt_,tt_,tt_,ff_,ff_,ff_,ff_,ff_] rfl rfl (by kernel_rfl) (fun _ _ _ h => h) (Or.inr ⟨by rfl, rfl⟩) ?_ ?_
 rotate_left
 ·simp only [Act.put, List.setIfInBounds_toArray, List.set_cons_zero, List.set_cons_succ, i64_w, i32_w]
  rfl
 refine pure_ (i := 4) (N := some 18) (v := undef) (a' := ?_) #[tt_,tt_,tt_,tt_,tt_,ff_,ff_,ff_,ff_] rfl rfl (by kernel_rfl) (fun _ _ _ h => h) (Or.inr ⟨by rfl, rfl⟩) ?_ ?_
 rotate_left
 ·simp only [Act.put, List.setIfInBounds_toArray, List.set_cons_zero, List.set_cons_succ, i64_w, i32_w]
  rfl
 refine pure_ (i := 5) (N := some 19) (v := undef) (a' := ?_) #[tt_,tt_,tt_,tt_,tt_,tt_,ff_,ff_,ff_] rfl rfl (by kernel_rfl) (fun _ _ _ h => h) (Or.inr ⟨by rfl, rfl⟩) ?_ ?_
 rotate_left
 ·simp only [Act.put, List.setIfInBounds_toArray, List.set_cons_zero, List.set_cons_succ, i64_w, i32_w]
  rfl
 refine pure_ (i := 6) (N := some 20) (v := undef) (a' := ?_) #[tt_,tt_,tt_,tt_,tt_,tt_,tt_,ff_,ff_] rfl rfl (by kernel_rfl) (fun _ _ _ h => h) (Or.inr ⟨by rfl, rfl⟩) ?_ ?_
 rotate_left
 ·simp only [Act.put, List.setIfInBounds_toArray, List.set_cons_zero, List.set_cons_succ, i64_w, i32_w]
  rfl
 refine pure_ (i := 7) (N := some 21) (v := undef) (a' := ?_) #[tt_,tt_,tt_,tt_,tt_,tt_,tt_,tt_,ff_] rfl rfl (by kernel_rfl) (fun _ _ _ h => h) (Or.inr ⟨by rfl, rfl⟩) ?_ ?_
 rotate_left
 ·simp only [Act.put, List.setIfInBounds_toArray, List.set_cons_zero, List.set_cons_succ, i64_w, i32_w]
  rfl
 refine pure_ (i := 8) (N := some 22) (v := ?_) (a' := ?_) #[tt_,tt_,tt_,tt_,tt_,tt_,tt_,tt_,tt_] rfl rfl (by kernel_rfl) (fun _ _ _ h => h) (Or.inl ⟨by rfl, ?_⟩) ?_ ?_
 rotate_left
 ·intro w'
  go_simp
  with_reducible rfl
 rotate_left
 ·simp only [Act.put, List.setIfInBounds_toArray, List.set_cons_zero, List.set_cons_succ, i64_w, i32_w]
  rfl
 refine done_ (by kernel_rfl) ?_

 go_wp2_with (first | ((with_reducible refine gate_store (p := 8) rfl ?_); refine store_event rfl rfl rfl gr #[.int .u32 0, .int .u32 0, .bool false] _ 32 rfl rfl R_5.out size32 rfl (by simp [Value.oneCell']) ?_; intro w6 hm_ hst_ hbl_; have B_6 := Aside0.mk (B_5.out.trans (hbl_ _ GR.out)); have F_6 := Aside0.mk ((hst_ bf NEFR.out).trans F_5.out); have Y_6 := Aside0.mk ((hst_ bq NEYR.out).trans Y_5.out); have R_6 := Aside0.mk (hm_); clear F_5 Y_5 R_5 hm_ hst_ hbl_))
 refine bodyPost_ret (results_ct rfl _ _ gr 32 #[.int .u32 0, .int .u32 0, .bool false] (0, 0) _ rfl R_6.out Try.underlying32 rfl (by kernel_rfl)) rfl ?_
 exact ⟨rfl, B_6.out⟩
set_option maxHeartbeats 4000000 in
theorem first_farc (g lo hi y : Nat) (F : Nat → Nat) (w : World) (hlo : lo < 4294967296) (hhi : hi < 4294967296) (hy : y < 4294967296) (hF : ∀ x, x < 4294967296 → F x < 4294967296) (hA : ∀ (W : World) (x : Nat), x < 4294967296 → Below w.heap.size w W → Calls Try.prog 17 #[.pointer (some ⟨g, 0, none⟩), .int .u32 (x : Int)] W fun e w' => e = .returned (.int .u32 ((F x : Nat) : Int)) ∧ Below W.heap.size W w') (c0 : isnan y = false) (c1 : lt (F hi) y = true) :
    Calls Try.prog 41 #[.iface 26 (.pointer (some ⟨g, 0, none⟩)), .int .u32 (lo : Int), .int .u32 (hi : Int), .int .u32 (y : Int)] w fun e w' => e = .returned (.tuple #[.agg #[.int .u32 0, .int .u32 0, .bool false], .int .i64 43]) ∧ Below w.heap.size w w' := by
 have HA := Aside0.mk hA
 have HY := Aside0.mk hy
 have HLO := Aside0.mk hlo
 have HHI := Aside0.mk hhi
 have HF := Aside0.mk hF
 have HFH : Aside0 (F hi < 4294967296) := ⟨hF _ hhi⟩
 have B_0 : Aside0 (Below w.heap.size w w) := ⟨Below.refl _ _⟩
 clear hlo hhi hy hF hA
 go_enter Try.func41, Try.ntmps41
 go_wp2_with (first | ((with_reducible refine gate_dst (N := 4) rfl ?_); refine box_event ?hg (N := 4) ?hd (cs := #[.iface 26 (.pointer (some ⟨g, 0, none⟩))]) (t := 86) ?hr ?_; (case hd => rfl); (case hg => rfl); (case hr => first | (go_simp; done) | (go_simp; rfl)); intro bf hg_ w1 hm_ hb_; have GF := Aside0.mk (show w.heap.size ≤ bf by rw [hg_]; exact B_0.out.size); have B_1 := Aside0.mk (below_step B_0.out hb_); have F_1 := Aside0.mk (hm_); clear hm_ hb_ hg_) | ((with_reducible refine gate_dst (N := 7) rfl ?_); refine box_event ?hg (N := 7) ?hd (cs := #[.int .u32 (y : Int)]) (t := 30) ?hr ?_; (case hd => rfl); (case hg => rfl); (case hr => first | (go_simp; done) | (go_simp; rfl)); intro bq hg_ w2 hm_ hb_; have NEFY := Aside0.mk (show bf ≠ bq by rw [hg_]; have := blk_lt F_1.out; omega); have GY := Aside0.mk (show w.heap.size ≤ bq by rw [hg_]; exact B_1.out.size); have B_2 := Aside0.mk (below_step B_1.out hb_); have F_2 := Aside0.mk (blk_below F_1.out hb_); clear F_1; have Y_2 := Aside0.mk (hm_); clear hm_ hb_ hg_) | ((with_reducible refine gate_dst (N := 8) rfl ?_); refine box_event ?hg (N := 8) ?hd (cs := #[.int .u32 0, .int .u32 0, .bool false]) (t := 32) ?hr ?_; (case hd => rfl); (case hg => rfl); (case hr => first | (go_simp; done) | (go_simp; rfl)); intro gr hg_ w3 hm_ hb_; have NEFR := Aside0.mk (show bf ≠ gr by rw [hg_]; have := blk_lt F_2.out; omega); have NEYR := Aside0.mk (show bq ≠ gr by rw [hg_]; have := blk_lt Y_2.out; omega); have GR := Aside0.mk (show w.heap.size ≤ gr by rw [hg_]; exact B_2.out.size); have B_3 := Aside0.mk (below_step B_2.out hb_); have F_3 := Aside0.mk (blk_below F_2.out hb_); have Y_3 := Aside0.mk (blk_below Y_2.out hb_); clear F_2 Y_2; have R_3 := Aside0.mk (hm_); clear hm_ hb_ hg_))
 have B_4 : Aside0 (Below w.heap.size w w3.drew) := ⟨below_drew B_3.out⟩
 have F_4 := Aside0.mk (blk_drew F_3.out)
 have Y_4 := Aside0.mk (blk_drew Y_3.out)
 have R_4 := Aside0.mk (blk_drew R_3.out)
 clear B_3 F_3 Y_3 R_3
 refine start_ (n := 9) (S := fun w' => w'.cell? ⟨bf, 0, none⟩ = some (.iface 26 (.pointer (some ⟨g, 0, none⟩))) ∧ w'.cell? ⟨bq, 0, none⟩ = some (.int .u32 (y : Int))) (ds := []) #[ff_,ff_,ff_,ff_,ff_,ff_,ff_,ff_,ff_] (by kernel_rfl) rfl rfl ⟨(blk_cell F_4.out 0).trans rfl, (blk_cell Y_4.out 0).trans rfl⟩ (fun hHeld => ?_)
 generalize w3.drew = w4 at *
 refine take_ (i := 0) (N := some 14) (v := ?_) (a' := ?_) #[tt_,ff_,ff_,ff_,ff_,ff_,ff_,ff_,ff_] rfl rfl (by kernel_rfl) (fun _ _ _ h => h) (Or.inl ⟨by rfl, ?_⟩) hHeld ?_ ?_
 rotate_left
 ·rintro w' ⟨s0, s1⟩
  go_simp
  with_reducible rfl
 rotate_left
 ·simp only [Act.put, List.setIfInBounds_toArray, List.set_cons_zero, List.set_cons_succ, i64_w, i32_w]
  rfl
 refine one_ (i := 1) (N := some 15) #[tt_,tt_,ff_,ff_,ff_,ff_,ff_,ff_,ff_] rfl rfl (by kernel_rfl) (by decide) (fun K hK => ?_)
 refine goes_ Try.func44 (by kernel_rfl) rfl #[.int .u32 (y : Int)] (by rfl) rfl rfl (by (try simp only [List.map_toArray, List.map_cons, List.map_nil]); rfl) ?_
 with_reducible refine (IsNaN_calls y HY.out _).mono ?_
 rw [c0]
 rintro e w5 ⟨rfl, hb⟩
 refine ⟨_, rfl, ?_⟩
 have B_5 := Aside0.mk (below_step B_4.out hb)
 have F_5 := Aside0.mk (blk_below F_4.out hb)
 have Y_5 := Aside0.mk (blk_below Y_4.out hb)
 have R_5 := Aside0.mk (blk_below R_4.out hb)
 clear F_4 Y_4 R_4
 clear hb
 refine hK.out _ _ ⟨(blk_cell F_5.out 0).trans rfl, (blk_cell Y_5.out 0).trans rfl⟩ (fun hHeld => ?_)
 clear hK K
 refine norm_ (a' := ?_) ?_ ?_
 rotate_left
 ·show Act.put _ (some 15) _ = _
  simp only [Act.put, List.setIfInBounds_toArray, List.set_cons_zero, List.set_cons_succ, i64_w, i32_w]
  rfl
 refine pure_ (i := 2) (N := some 16) (v := ?_) (a' := ?_) #[tt_,tt_,tt_,ff_,ff_,ff_,ff_,ff_,ff_] rfl rfl (by kernel_rfl) (fun _ _ _ h => h) (Or.inl ⟨by rfl, ?_⟩) ?_ ?_
 rotate_left
 ·intro w'
  go_simp
  with_reducible rfl
 rotate_left
 ·simp only [Act.put, List.setIfInBounds_toArray, List.set_cons_zero, List.set_cons_succ, i64_w, i32_w]
  rfl
 refine pure_ (i := 4) (N := some 18) (v := ?_) (a' := ?_) #[tt_,tt_,tt_,ff_,tt_,ff_,ff_,ff_,ff_] rfl rfl (by kernel_rfl) (fun _ _ _ h => h) (Or.inl ⟨by rfl, ?_⟩) ?_ ?_
 rotate_left
 ·intro w'
  go_simp
  with_reducible rfl
 rotate_left
 ·simp only [Act.put, List.setIfInBounds_toArray, List.set_cons_zero, List.set_cons_succ, i64_w, i32_w]
  rfl
 refine take_ (i := 3) (N := some 17) (v := ?_) (a' := ?_) #[tt_,tt_,tt_,tt_,tt_,ff_,ff_,ff_,ff_] rfl rfl (by kernel_rfl) (fun _ _ _ h => h) (Or.inl ⟨by rfl, ?_⟩) hHeld ?_ ?_
 rotate_left
 ·rintro w' ⟨s0, s1⟩
  go_simp
  with_reducible rfl
 rotate_left
 ·simp only [Act.put, List.setIfInBounds_toArray, List.set_cons_zero, List.set_cons_succ, i64_w, i32_w]
  rfl
 refine take_ (i := 6) (N := some 20) (v := ?_) (a' := ?_) #[tt_,tt_,tt_,tt_,tt_,ff_,tt_,ff_,ff_] rfl rfl (by kernel_rfl) (fun _ _ _ h => h) (Or.inl ⟨by rfl, ?_⟩) hHeld ?_ ?_
 rotate_left
 ·rintro w' ⟨s0, s1⟩
  go_simp
  with_reducible rfl
 rotate_left
 ·simp only [Act.put, List.setIfInBounds_toArray, List.set_cons_zero, List.set_cons_succ, i64_w, i32_w]
  rfl
 refine one_ (i := 5) (N := some 19) #[tt_,tt_,tt_,tt_,tt_,tt_,tt_,ff_,ff_] rfl rfl (by kernel_rfl) (by decide) (fun K hK => ?_)
 refine goesM_ (f := 17) (.iface 26 (.pointer (some ⟨g, 0, none⟩))) #[.int .u32 ((hi : Nat) : Int)] _ (inv_c g (hi) _) (by rfl) rfl rfl (by rfl) (by (try simp only [List.map_toArray, List.map_cons, List.map_nil]); rfl) ?_
 refine (HA.out _ _ HHI.out B_5.out).mono ?_
 rintro e w6 ⟨rfl, hb⟩
 refine ⟨_, rfl, ?_⟩
 have B_6 := Aside0.mk (below_step B_5.out hb)
 have F_6 := Aside0.mk (blk_below F_5.out hb)
 have Y_6 := Aside0.mk (blk_below Y_5.out hb)
 have R_6 := Aside0.mk (blk_below R_5.out hb)
 clear F_5 Y_5 R_5
 clear hb
 refine hK.out _ _ ⟨(blk_cell F_6.out 0).trans rfl, (blk_cell Y_6.out 0).trans rfl⟩ (fun hHeld => ?_)
 clear hK K
 refine norm_ (a' := ?_) ?_ ?_
 rotate_left
 ·show Act.put _ (some 19) _ = _
  simp only [Act.put, List.setIfInBounds_toArray, List.set_cons_zero, List.set_cons_succ, i64_w, i32_w]
  rfl
 refine one_ (i := 7) (N := some 21) #[tt_,tt_,tt_,tt_,tt_,tt_,tt_,tt_,ff_] rfl rfl (by kernel_rfl) (by decide) (fun K hK => ?_)
 refine goes_ Try.func45 (by kernel_rfl) rfl #[.int .u32 ((F hi : Nat) : Int), .int .u32 (y : Int)] (by rfl) rfl rfl (by (try simp only [List.map_toArray, List.map_cons, List.map_nil]); rfl) ?_
 with_reducible refine (Less_calls _ _ HFH.out HY.out _).mono ?_
 rw [c1]
 rintro e _ ⟨rfl, rfl⟩
 refine ⟨_, rfl, ?_⟩
 refine hK.out _ _ ⟨(blk_cell F_6.out 0).trans rfl, (blk_cell Y_6.out 0).trans rfl⟩ (fun hHeld => ?_)
 clear hK K
 refine norm_ (a' := ?_) ?_ ?_
 rotate_left
 ·show Act.put _ (some 21) _ = _
  simp only [Act.put, List.setIfInBounds_toArray, List.set_cons_zero, List.set_cons_succ, i64_w, i32_w]
  rfl
 refine pure_ (i := 8) (N := some 22) (v := ?_) (a' := ?_) #[tt_,tt_,tt_,tt_,tt_,tt_,tt_,tt_,tt_] rfl rfl (by kernel_rfl) (fun _ _ _ h => h) (Or.inl ⟨by rfl, ?_⟩) ?_ ?_
 rotate_left
 ·intro w'
  go_simp
  with_reducible rfl
 rotate_left
 ·simp only [Act.put, List.setIfInBounds_toArray, List.set_cons_zero, List.set_cons_succ, i64_w, i32_w]
  rfl
 refine done_ (by kernel_rfl) ?_

 go_wp2_with (first | ((with_reducible refine gate_store (p := 8) rfl ?_); refine store_event rfl rfl rfl gr #[.int .u32 0, .int .u32 0, .bool false] _ 32 rfl rfl R_6.out size32 rfl (by simp [Value.oneCell']) ?_; intro w7 hm_ hst_ hbl_; have B_7 := Aside0.mk (B_6.out.trans (hbl_ _ GR.out)); have F_7 := Aside0.mk ((hst_ bf NEFR.out).trans F_6.out); have Y_7 := Aside0.mk ((hst_ bq NEYR.out).trans Y_6.out); have R_7 := Aside0.mk (hm_); clear F_6 Y_6 R_6 hm_ hst_ hbl_))
 refine bodyPost_ret (results_ct rfl _ _ gr 32 #[.int .u32 0, .int .u32 0, .bool false] (0, 0) _ rfl R_7.out Try.underlying32 rfl (by kernel_rfl)) rfl ?_
 exact ⟨rfl, B_7.out⟩
set_option maxHeartbeats 4000000 in
theorem first_zeroc (g lo hi y : Nat) (F : Nat → Nat) (w : World) (hlo : lo < 4294967296) (hhi : hi < 4294967296) (hy : y < 4294967296) (hF : ∀ x, x < 4294967296 → F x < 4294967296) (hA : ∀ (W : World) (x : Nat), x < 4294967296 → Below w.heap.size w W → Calls Try.prog 17 #[.pointer (some ⟨g, 0, none⟩), .int .u32 (x : Int)] W fun e w' => e = .returned (.int .u32 ((F x : Nat) : Int)) ∧ Below W.heap.size W w') (c0 : isnan y = false) (c1 : lt (F hi) y = false) (hk : kf lo ≤ kf hi) (n : Nat) (h0 : n = 0) (hnd : n ≤ kf hi - kf lo) (hu : ∀ r, Srch (fun i => !lt (F (fk (kf lo + i))) y) (kf hi - kf lo) r → r = n) :
    Calls Try.prog 41 #[.iface 26 (.pointer (some ⟨g, 0, none⟩)), .int .u32 (lo : Int), .int .u32 (hi : Int), .int .u32 (y : Int)] w fun e w' => e = .returned (.tuple #[.agg #[.int .u32 ((fk (kf lo + n) : Nat) : Int), .int .u32 0, .bool false], .int .i64 0]) ∧ Below w.heap.size w w' := by
 have HA := Aside0.mk hA
 have HY := Aside0.mk hy
 have HLO := Aside0.mk hlo
 have HHI := Aside0.mk hhi
 have HF := Aside0.mk hF
 have HFH : Aside0 (F hi < 4294967296) := ⟨hF _ hhi⟩
 have hw := kf_word hhi
 have hwl := kf_word hlo
 obtain ⟨a, ha⟩ : ∃ a, kf lo = a := ⟨_, rfl⟩
 obtain ⟨d, hd⟩ : ∃ d, kf hi = a + d := ⟨kf hi - kf lo, by omega⟩
 obtain ⟨q, hq⟩ : ∃ q, a + n = q := ⟨_, rfl⟩
 rw [ha] at hu hk hwl
 have HKA := Aside0.mk ha
 have hn : n ≤ d := by omega
 have hu' : ∀ r, Srch (fun i => !lt (F (fk (a + i))) y) d r → r = n := fun r h => hu r (by rw [hd, Nat.add_sub_cancel_left]; exact h)
 have HU := Aside0.mk hu'
 have HD : Aside0 (d < 4611686018427387904) := ⟨by omega⟩
 have HAD : Aside0 (∀ i, i < d → a + i < 4294967296) := ⟨fun i hi => by omega⟩
 have HQ : Aside0 (q < 4294967296) := ⟨by omega⟩
 have wd : IntKind.i64.wrap ((kf hi : Int) - (a : Int)) = (d : Int) := by rw [show IntKind.i64.wrap ((kf hi : Int) - (a : Int)) = wrap64 ((kf hi : Int) - (a : Int)) from i64_w _, w64 (by omega) (by omega)]; omega
 have wq : IntKind.i64.wrap ((a : Int) + (n : Int)) = (q : Int) := by rw [show IntKind.i64.wrap ((a : Int) + (n : Int)) = wrap64 ((a : Int) + (n : Int)) from i64_w _, w64 (by omega) (by omega)]; omega
 have wq2 : IntKind.u32.wrap (q : Int) = (q : Int) := by rw [IntKind.wrap_u32]; omega
 have wa : IntKind.i64.wrap (a : Int) = (a : Int) := by rw [show IntKind.i64.wrap (a : Int) = wrap64 (a : Int) from i64_w _, w64 (by omega) (by omega)]
 have wh : IntKind.i64.wrap ((kf hi : Nat) : Int) = ((kf hi : Nat) : Int) := by rw [show IntKind.i64.wrap ((kf hi : Nat) : Int) = wrap64 ((kf hi : Nat) : Int) from i64_w _, w64 (by omega) (by omega)]
 have eg : Aside0 (∀ args w, (callFunc 56 args).run Try.prog w = .ok (.enter 56 args) w) := ⟨enters_of Try.func56 (by kernel_rfl) rfl⟩
 have tg : decide ((n : Int) > 0) = false := decide_eq_false (by omega)
 have tg2 : (0 < n) = False := eq_false (by omega)
 rw [ha]
 rw [hq]
 clear hnd hlo hhi hy hF hA hu hk hw hwl ha hd hq hn hu' h0
 have B_0 : Aside0 (Below w.heap.size w w) := ⟨Below.refl _ _⟩
 go_enter Try.func41, Try.ntmps41
 go_wp2_with (first | ((with_reducible refine gate_dst (N := 4) rfl ?_); refine box_event ?hg (N := 4) ?hd (cs := #[.iface 26 (.pointer (some ⟨g, 0, none⟩))]) (t := 86) ?hr ?_; (case hd => rfl); (case hg => rfl); (case hr => first | (go_simp; done) | (go_simp; rfl)); intro bf hg_ w1 hm_ hb_; have GF := Aside0.mk (show w.heap.size ≤ bf by rw [hg_]; exact B_0.out.size); have B_1 := Aside0.mk (below_step B_0.out hb_); have F_1 := Aside0.mk (hm_); clear hm_ hb_ hg_) | ((with_reducible refine gate_dst (N := 7) rfl ?_); refine box_event ?hg (N := 7) ?hd (cs := #[.int .u32 (y : Int)]) (t := 30) ?hr ?_; (case hd => rfl); (case hg => rfl); (case hr => first | (go_simp; done) | (go_simp; rfl)); intro bq hg_ w2 hm_ hb_; have NEFY := Aside0.mk (show bf ≠ bq by rw [hg_]; have := blk_lt F_1.out; omega); have GY := Aside0.mk (show w.heap.size ≤ bq by rw [hg_]; exact B_1.out.size); have B_2 := Aside0.mk (below_step B_1.out hb_); have F_2 := Aside0.mk (blk_below F_1.out hb_); clear F_1; have Y_2 := Aside0.mk (hm_); clear hm_ hb_ hg_) | ((with_reducible refine gate_dst (N := 8) rfl ?_); refine box_event ?hg (N := 8) ?hd (cs := #[.int .u32 0, .int .u32 0, .bool false]) (t := 32) ?hr ?_; (case hd => rfl); (case hg => rfl); (case hr => first | (go_simp; done) | (go_simp; rfl)); intro gr hg_ w3 hm_ hb_; have NEFR := Aside0.mk (show bf ≠ gr by rw [hg_]; have := blk_lt F_2.out; omega); have NEYR := Aside0.mk (show bq ≠ gr by rw [hg_]; have := blk_lt Y_2.out; omega); have GR := Aside0.mk (show w.heap.size ≤ gr by rw [hg_]; exact B_2.out.size); have B_3 := Aside0.mk (below_step B_2.out hb_); have F_3 := Aside0.mk (blk_below F_2.out hb_); have Y_3 := Aside0.mk (blk_below Y_2.out hb_); clear F_2 Y_2; have R_3 := Aside0.mk (hm_); clear hm_ hb_ hg_))
 have B_4 : Aside0 (Below w.heap.size w w3.drew) := ⟨below_drew B_3.out⟩
 have F_4 := Aside0.mk (blk_drew F_3.out)
 have Y_4 := Aside0.mk (blk_drew Y_3.out)
 have R_4 := Aside0.mk (blk_drew R_3.out)
 clear B_3 F_3 Y_3 R_3
 refine start_ (n := 9) (S := fun w' => w'.cell? ⟨bf, 0, none⟩ = some (.iface 26 (.pointer (some ⟨g, 0, none⟩))) ∧ w'.cell? ⟨bq, 0, none⟩ = some (.int .u32 (y : Int))) (ds := []) #[ff_,ff_,ff_,ff_,ff_,ff_,ff_,ff_,ff_] (by kernel_rfl) rfl rfl ⟨(blk_cell F_4.out 0).trans rfl, (blk_cell Y_4.out 0).trans rfl⟩ (fun hHeld => ?_)
 generalize w3.drew = w4 at *
 refine take_ (i := 0) (N := some 14) (v := ?_) (a' := ?_) #[tt_,ff_,ff_,ff_,ff_,ff_,ff_,ff_,ff_] rfl rfl (by kernel_rfl) (fun _ _ _ h => h) (Or.inl ⟨by rfl, ?_⟩) hHeld ?_ ?_
 rotate_left
 ·rintro w' ⟨s0, s1⟩
  go_simp
  with_reducible rfl
 rotate_left
 ·simp only [Act.put, List.setIfInBounds_toArray, List.set_cons_zero, List.set_cons_succ, i64_w, i32_w]
  rfl
 refine one_ (i := 1) (N := some 15) #[tt_,tt_,ff_,ff_,ff_,ff_,ff_,ff_,ff_] rfl rfl (by kernel_rfl) (by decide) (fun K hK => ?_)
 refine goes_ Try.func44 (by kernel_rfl) rfl #[.int .u32 (y : Int)] (by rfl) rfl rfl (by (try simp only [List.map_toArray, List.map_cons, List.map_nil]); rfl) ?_
 with_reducible refine (IsNaN_calls y HY.out _).mono ?_
 rw [c0]
 rintro e w5 ⟨rfl, hb⟩
 refine ⟨_, rfl, ?_⟩
 have B_5 := Aside0.mk (below_step B_4.out hb)
 have F_5 := Aside0.mk (blk_below F_4.out hb)
 have Y_5 := Aside0.mk (blk_below Y_4.out hb)
 have R_5 := Aside0.mk (blk_below R_4.out hb)
 clear F_4 Y_4 R_4
 clear hb
 refine hK.out _ _ ⟨(blk_cell F_5.out 0).trans rfl, (blk_cell Y_5.out 0).trans rfl⟩ (fun hHeld => ?_)
 clear hK K
 refine norm_ (a' := ?_) ?_ ?_
 rotate_left
 ·show Act.put _ (some 15) _ = _
  simp only [Act.put, List.setIfInBounds_toArray, List.set_cons_zero, List.set_cons_succ, i64_w, i32_w]
  rfl
 refine pure_ (i := 2) (N := some 16) (v := ?_) (a' := ?_) #[tt_,tt_,tt_,ff_,ff_,ff_,ff_,ff_,ff_] rfl rfl (by kernel_rfl) (fun _ _ _ h => h) (Or.inl ⟨by rfl, ?_⟩) ?_ ?_
 rotate_left
 ·intro w'
  go_simp
  with_reducible rfl
 rotate_left
 ·simp only [Act.put, List.setIfInBounds_toArray, List.set_cons_zero, List.set_cons_succ, i64_w, i32_w]
  rfl
 refine pure_ (i := 4) (N := some 18) (v := ?_) (a' := ?_) #[tt_,tt_,tt_,ff_,tt_,ff_,ff_,ff_,ff_] rfl rfl (by kernel_rfl) (fun _ _ _ h => h) (Or.inl ⟨by rfl, ?_⟩) ?_ ?_
 rotate_left
 ·intro w'
  go_simp
  with_reducible rfl
 rotate_left
 ·simp only [Act.put, List.setIfInBounds_toArray, List.set_cons_zero, List.set_cons_succ, i64_w, i32_w]
  rfl
 refine take_ (i := 3) (N := some 17) (v := ?_) (a' := ?_) #[tt_,tt_,tt_,tt_,tt_,ff_,ff_,ff_,ff_] rfl rfl (by kernel_rfl) (fun _ _ _ h => h) (Or.inl ⟨by rfl, ?_⟩) hHeld ?_ ?_
 rotate_left
 ·rintro w' ⟨s0, s1⟩
  go_simp
  with_reducible rfl
 rotate_left
 ·simp only [Act.put, List.setIfInBounds_toArray, List.set_cons_zero, List.set_cons_succ, i64_w, i32_w]
  rfl
 refine take_ (i := 6) (N := some 20) (v := ?_) (a' := ?_) #[tt_,tt_,tt_,tt_,tt_,ff_,tt_,ff_,ff_] rfl rfl (by kernel_rfl) (fun _ _ _ h => h) (Or.inl ⟨by rfl, ?_⟩) hHeld ?_ ?_
 rotate_left
 ·rintro w' ⟨s0, s1⟩
  go_simp
  with_reducible rfl
 rotate_left
 ·simp only [Act.put, List.setIfInBounds_toArray, List.set_cons_zero, List.set_cons_succ, i64_w, i32_w]
  rfl
 refine one_ (i := 5) (N := some 19) #[tt_,tt_,tt_,tt_,tt_,tt_,tt_,ff_,ff_] rfl rfl (by kernel_rfl) (by decide) (fun K hK => ?_)
 refine goesM_ (f := 17) (.iface 26 (.pointer (some ⟨g, 0, none⟩))) #[.int .u32 ((hi : Nat) : Int)] _ (inv_c g (hi) _) (by rfl) rfl rfl (by rfl) (by (try simp only [List.map_toArray, List.map_cons, List.map_nil]); rfl) ?_
 refine (HA.out _ _ HHI.out B_5.out).mono ?_
 rintro e w6 ⟨rfl, hb⟩
 refine ⟨_, rfl, ?_⟩
 have B_6 := Aside0.mk (below_step B_5.out hb)
 have F_6 := Aside0.mk (blk_below F_5.out hb)
 have Y_6 := Aside0.mk (blk_below Y_5.out hb)
 have R_6 := Aside0.mk (blk_below R_5.out hb)
 clear F_5 Y_5 R_5
 clear hb
 refine hK.out _ _ ⟨(blk_cell F_6.out 0).trans rfl, (blk_cell Y_6.out 0).trans rfl⟩ (fun hHeld => ?_)
 clear hK K
 refine norm_ (a' := ?_) ?_ ?_
 rotate_left
 ·show Act.put _ (some 19) _ = _
  simp only [Act.put, List.setIfInBounds_toArray, List.set_cons_zero, List.set_cons_succ, i64_w, i32_w]
  rfl
 refine one_ (i := 7) (N := some 21) #[tt_,tt_,tt_,tt_,tt_,tt_,tt_,tt_,ff_] rfl rfl (by kernel_rfl) (by decide) (fun K hK => ?_)
 refine goes_ Try.func45 (by kernel_rfl) rfl #[.int .u32 ((F hi : Nat) : Int), .int .u32 (y : Int)] (by rfl) rfl rfl (by (try simp only [List.map_toArray, List.map_cons, List.map_nil]); rfl) ?_
 with_reducible refine (Less_calls _ _ HFH.out HY.out _).mono ?_
 rw [c1]
 rintro e _ ⟨rfl, rfl⟩
 refine ⟨_, rfl, ?_⟩
 refine hK.out _ _ ⟨(blk_cell F_6.out 0).trans rfl, (blk_cell Y_6.out 0).trans rfl⟩ (fun hHeld => ?_)
 clear hK K
 refine norm_ (a' := ?_) ?_ ?_
 rotate_left
 ·show Act.put _ (some 21) _ = _
  simp only [Act.put, List.setIfInBounds_toArray, List.set_cons_zero, List.set_cons_succ, i64_w, i32_w]
  rfl
 refine pure_ (i := 8) (N := some 22) (v := ?_) (a' := ?_) #[tt_,tt_,tt_,tt_,tt_,tt_,tt_,tt_,tt_] rfl rfl (by kernel_rfl) (fun _ _ _ h => h) (Or.inl ⟨by rfl, ?_⟩) ?_ ?_
 rotate_left
 ·intro w'
  go_simp
  with_reducible rfl
 rotate_left
 ·simp only [Act.put, List.setIfInBounds_toArray, List.set_cons_zero, List.set_cons_succ, i64_w, i32_w]
  rfl
 refine done_ (by kernel_rfl) ?_

 go_wp2_with (first | (go_at_call 55; (with_reducible refine (Key_calls lo HLO.out _).mono ?_); rw [HKA.out]; rintro e w7 ⟨rfl, hd⟩; have hb := hd.below; clear hd; have B_7 := Aside0.mk (below_step B_6.out hb); have F_7 := Aside0.mk (blk_below F_6.out hb); have Y_7 := Aside0.mk (blk_below Y_6.out hb); have R_7 := Aside0.mk (blk_below R_6.out hb); clear F_6 Y_6 R_6; clear hb) | (go_at_call 55; (with_reducible refine (Key_calls hi HHI.out _).mono ?_); rintro e w8 ⟨rfl, hd⟩; have hb := hd.below; clear hd; have B_8 := Aside0.mk (below_step B_7.out hb); have F_8 := Aside0.mk (blk_below F_7.out hb); have Y_8 := Aside0.mk (blk_below Y_7.out hb); have R_8 := Aside0.mk (blk_below R_7.out hb); clear F_7 Y_7 R_7; clear hb) | ((with_reducible refine gate_dst (N := 10) rfl ?_); refine box_event ?hg (N := 10) ?hd (cs := #[.int .i64 0]) (t := 3) ?hr ?_; (case hd => rfl); (case hg => rfl); (case hr => first | (go_simp; done) | (go_simp; rfl)); intro ga hg_ w9 hm_ hb_; have NEFA := Aside0.mk (show bf ≠ ga by rw [hg_]; have := blk_lt F_8.out; omega); have NEYA := Aside0.mk (show bq ≠ ga by rw [hg_]; have := blk_lt Y_8.out; omega); have NERA := Aside0.mk (show gr ≠ ga by rw [hg_]; have := blk_lt R_8.out; omega); have GA := Aside0.mk (show w.heap.size ≤ ga by rw [hg_]; exact B_8.out.size); have B_9 := Aside0.mk (below_step B_8.out hb_); have F_9 := Aside0.mk (blk_below F_8.out hb_); have Y_9 := Aside0.mk (blk_below Y_8.out hb_); have R_9 := Aside0.mk (blk_below R_8.out hb_); clear F_8 Y_8 R_8; have A_9 := Aside0.mk (hm_); have cA0 := (blk_cell A_9.out 0).trans rfl; clear hm_ hb_ hg_) | ((with_reducible refine gate_store (p := 10) rfl ?_); refine storec_event rfl rfl rfl ga 0 (.int .i64 (a : Int)) _ _ rfl rfl rfl A_9.out size3 (by simp) rfl ?_; intro w10 hm_ hst_ hbl_; clear cA0; have B_10 := Aside0.mk (B_9.out.trans (hbl_ _ GA.out)); have F_10 := Aside0.mk ((hst_ bf NEFA.out).trans F_9.out); have Y_10 := Aside0.mk ((hst_ bq NEYA.out).trans Y_9.out); have R_10 := Aside0.mk ((hst_ gr NERA.out).trans R_9.out); have A_10 := Aside0.mk (hm_); clear F_9 Y_9 R_9 A_9 hm_ hst_ hbl_; have cA0 := (blk_cell A_10.out 0).trans rfl) | (go_at_call 46; have hS := Search_calls 56 #[.pointer (some ⟨bf, 0, none⟩), .pointer (some ⟨ga, 0, none⟩), .pointer (some ⟨bq, 0, none⟩)] d (fun i => !lt (F (fk (a + i))) y) w10 eg.out HD.out (fun W i hi hb => closure56c_calls bf ga bq g a y i F W HY.out HF.out (HAD.out i hi) (fun W2 x hx h2 => HA.out W2 x hx ((below_step B_10.out hb).trans (h2.mono (below_step B_10.out hb).size))) ((blk_cell (blk_below F_10.out hb) 0).trans rfl) ((blk_cell (blk_below A_10.out hb) 0).trans rfl) ((blk_cell (blk_below Y_10.out hb) 0).trans rfl)); refine hS.mono ?_; clear hS; rintro e w11 ⟨r2, rfl, hb, hs⟩; obtain rfl : r2 = n := HU.out _ hs; clear hs; clear cA0; have B_11 := Aside0.mk (below_step B_10.out hb); have F_11 := Aside0.mk (blk_below F_10.out hb); have Y_11 := Aside0.mk (blk_below Y_10.out hb); have R_11 := Aside0.mk (blk_below R_10.out hb); have A_11 := Aside0.mk (blk_below A_10.out hb); clear F_10 Y_10 R_10 A_10; have cA0 := (blk_cell A_11.out 0).trans rfl; clear hb) | (go_at_call 57; (with_reducible refine (FromKey_calls q HQ.out _).mono ?_); rintro e w12 ⟨rfl, hd⟩; have hb := hd.below; clear hd; clear cA0; have B_12 := Aside0.mk (below_step B_11.out hb); have F_12 := Aside0.mk (blk_below F_11.out hb); have Y_12 := Aside0.mk (blk_below Y_11.out hb); have R_12 := Aside0.mk (blk_below R_11.out hb); have A_12 := Aside0.mk (blk_below A_11.out hb); clear F_11 Y_11 R_11 A_11; have cA0 := (blk_cell A_12.out 0).trans rfl; clear hb) | ((with_reducible refine gate_dst (N := 13) rfl ?_); refine box_event ?hg (N := 13) ?hd (cs := #[.int .u32 0, .int .u32 0, .bool false]) (t := 32) ?hr ?_; (case hd => rfl); (case hg => rfl); (case hr => first | (go_simp; done) | (go_simp; rfl)); intro gp hg_ w13 hm_ hb_; have NEFP := Aside0.mk (show bf ≠ gp by rw [hg_]; have := blk_lt F_12.out; omega); have NEYP := Aside0.mk (show bq ≠ gp by rw [hg_]; have := blk_lt Y_12.out; omega); have NERP := Aside0.mk (show gr ≠ gp by rw [hg_]; have := blk_lt R_12.out; omega); have NEAP := Aside0.mk (show ga ≠ gp by rw [hg_]; have := blk_lt A_12.out; omega); have GP := Aside0.mk (show w.heap.size ≤ gp by rw [hg_]; exact B_12.out.size); clear cA0; have B_13 := Aside0.mk (below_step B_12.out hb_); have F_13 := Aside0.mk (blk_below F_12.out hb_); have Y_13 := Aside0.mk (blk_below Y_12.out hb_); have R_13 := Aside0.mk (blk_below R_12.out hb_); have A_13 := Aside0.mk (blk_below A_12.out hb_); clear F_12 Y_12 R_12 A_12; have P_13 := Aside0.mk (hm_); have cA0 := (blk_cell A_13.out 0).trans rfl; have cP0 := (blk_cell P_13.out 0).trans rfl; have cP1 := (blk_cell P_13.out 1).trans rfl; have cP2 := (blk_cell P_13.out 2).trans rfl; clear hm_ hb_ hg_) | ((with_reducible refine gate_store (p := 13) rfl ?_); refine store_event rfl rfl rfl gp #[.int .u32 ((fk q : Nat) : Int), .int .u32 0, .bool false] _ 32 rfl rfl P_13.out size32 rfl (by simp [Value.oneCell']) ?_; intro w14 hm_ hst_ hbl_; clear cA0 cP0 cP1 cP2; have B_14 := Aside0.mk (B_13.out.trans (hbl_ _ GP.out)); have F_14 := Aside0.mk ((hst_ bf NEFP.out).trans F_13.out); have Y_14 := Aside0.mk ((hst_ bq NEYP.out).trans Y_13.out); have R_14 := Aside0.mk ((hst_ gr NERP.out).trans R_13.out); have A_14 := Aside0.mk ((hst_ ga NEAP.out).trans A_13.out); have P_14 := Aside0.mk (hm_); clear F_13 Y_13 R_13 A_13 P_13 hm_ hst_ hbl_; have cA0 := (blk_cell A_14.out 0).trans rfl; have cP0 := (blk_cell P_14.out 0).trans rfl; have cP1 := (blk_cell P_14.out 1).trans rfl; have cP2 := (blk_cell P_14.out 2).trans rfl) | ((with_reducible refine gate_dst (N := 52) rfl ?_); refine Kd.event_run rfl (v := .agg #[.int .u32 ((fk q : Nat) : Int), .int .u32 0, .bool false]) (w1 := w14) ?hr ?_; (case hr => exact load32 (by rfl) rfl (P_14.out))) | ((with_reducible refine gate_store (p := 8) rfl ?_); refine store_event rfl rfl rfl gr #[.int .u32 ((fk q : Nat) : Int), .int .u32 0, .bool false] _ 32 rfl rfl R_14.out size32 rfl (by simp [Value.oneCell']) ?_; intro w15 hm_ hst_ hbl_; clear cA0 cP0 cP1 cP2; have B_15 := Aside0.mk (B_14.out.trans (hbl_ _ GR.out)); have F_15 := Aside0.mk ((hst_ bf NEFR.out).trans F_14.out); have Y_15 := Aside0.mk ((hst_ bq NEYR.out).trans Y_14.out); have A_15 := Aside0.mk ((hst_ ga NERA.out.symm).trans A_14.out); have P_15 := Aside0.mk ((hst_ gp NERP.out.symm).trans P_14.out); have R_15 := Aside0.mk (hm_); clear F_14 Y_14 R_14 A_14 P_14 hm_ hst_ hbl_; have cA0 := (blk_cell A_15.out 0).trans rfl; have cP0 := (blk_cell P_15.out 0).trans rfl; have cP1 := (blk_cell P_15.out 1).trans rfl; have cP2 := (blk_cell P_15.out 2).trans rfl))
 refine bodyPost_ret (results_ct rfl _ _ gr 32 #[.int .u32 ((fk q : Nat) : Int), .int .u32 0, .bool false] (0, 0) _ rfl R_15.out Try.underlying32 rfl (by kernel_rfl)) rfl ?_
 exact ⟨rfl, B_15.out⟩
set_option maxHeartbeats 4000000 in
theorem first_posc (g lo hi y : Nat) (F : Nat → Nat) (w : World) (hlo : lo < 4294967296) (hhi : hi < 4294967296) (hy : y < 4294967296) (hF : ∀ x, x < 4294967296 → F x < 4294967296) (hA : ∀ (W : World) (x : Nat), x < 4294967296 → Below w.heap.size w W → Calls Try.prog 17 #[.pointer (some ⟨g, 0, none⟩), .int .u32 (x : Int)] W fun e w' => e = .returned (.int .u32 ((F x : Nat) : Int)) ∧ Below W.heap.size W w') (c0 : isnan y = false) (c1 : lt (F hi) y = false) (hk : kf lo ≤ kf hi) (n : Nat) (h0 : n ≠ 0) (hnd : n ≤ kf hi - kf lo) (hu : ∀ r, Srch (fun i => !lt (F (fk (kf lo + i))) y) (kf hi - kf lo) r → r = n) :
    Calls Try.prog 41 #[.iface 26 (.pointer (some ⟨g, 0, none⟩)), .int .u32 (lo : Int), .int .u32 (hi : Int), .int .u32 (y : Int)] w fun e w' => e = .returned (.tuple #[.agg #[.int .u32 ((fk (kf lo + n) : Nat) : Int), .int .u32 ((fk (kf lo + n - 1) : Nat) : Int), .bool true], .int .i64 0]) ∧ Below w.heap.size w w' := by
 have HA := Aside0.mk hA
 have HY := Aside0.mk hy
 have HLO := Aside0.mk hlo
 have HHI := Aside0.mk hhi
 have HF := Aside0.mk hF
 have HFH : Aside0 (F hi < 4294967296) := ⟨hF _ hhi⟩
 have hw := kf_word hhi
 have hwl := kf_word hlo
 obtain ⟨a, ha⟩ : ∃ a, kf lo = a := ⟨_, rfl⟩
 obtain ⟨d, hd⟩ : ∃ d, kf hi = a + d := ⟨kf hi - kf lo, by omega⟩
 obtain ⟨q, hq⟩ : ∃ q, a + n = q := ⟨_, rfl⟩
 rw [ha] at hu hk hwl
 have HKA := Aside0.mk ha
 have hn : n ≤ d := by omega
 have hu' : ∀ r, Srch (fun i => !lt (F (fk (a + i))) y) d r → r = n := fun r h => hu r (by rw [hd, Nat.add_sub_cancel_left]; exact h)
 have HU := Aside0.mk hu'
 have HD : Aside0 (d < 4611686018427387904) := ⟨by omega⟩
 have HAD : Aside0 (∀ i, i < d → a + i < 4294967296) := ⟨fun i hi => by omega⟩
 have HQ : Aside0 (q < 4294967296) := ⟨by omega⟩
 have wd : IntKind.i64.wrap ((kf hi : Int) - (a : Int)) = (d : Int) := by rw [show IntKind.i64.wrap ((kf hi : Int) - (a : Int)) = wrap64 ((kf hi : Int) - (a : Int)) from i64_w _, w64 (by omega) (by omega)]; omega
 have wq : IntKind.i64.wrap ((a : Int) + (n : Int)) = (q : Int) := by rw [show IntKind.i64.wrap ((a : Int) + (n : Int)) = wrap64 ((a : Int) + (n : Int)) from i64_w _, w64 (by omega) (by omega)]; omega
 have wq2 : IntKind.u32.wrap (q : Int) = (q : Int) := by rw [IntKind.wrap_u32]; omega
 have wa : IntKind.i64.wrap (a : Int) = (a : Int) := by rw [show IntKind.i64.wrap (a : Int) = wrap64 (a : Int) from i64_w _, w64 (by omega) (by omega)]
 have wh : IntKind.i64.wrap ((kf hi : Nat) : Int) = ((kf hi : Nat) : Int) := by rw [show IntKind.i64.wrap ((kf hi : Nat) : Int) = wrap64 ((kf hi : Nat) : Int) from i64_w _, w64 (by omega) (by omega)]
 have eg : Aside0 (∀ args w, (callFunc 56 args).run Try.prog w = .ok (.enter 56 args) w) := ⟨enters_of Try.func56 (by kernel_rfl) rfl⟩
 have tg : decide ((n : Int) > 0) = true := decide_eq_true (by omega)
 have tg2 : (0 < n) = True := eq_true (by omega)
 have HFQ : Aside0 (fk q < 4294967296) := ⟨fk_word HQ.out⟩
 have HPV : Aside0 (kf (fk q) = q) := ⟨kf_fk' HQ.out⟩
 have HPN : Aside0 (¬ (q = 0)) := ⟨by omega⟩
 rw [ha]
 rw [hq]
 clear hnd hlo hhi hy hF hA hu hk hw hwl ha hd hq hn hu' h0
 have B_0 : Aside0 (Below w.heap.size w w) := ⟨Below.refl _ _⟩
 go_enter Try.func41, Try.ntmps41
 go_wp2_with (first | ((with_reducible refine gate_dst (N := 4) rfl ?_); refine box_event ?hg (N := 4) ?hd (cs := #[.iface 26 (.pointer (some ⟨g, 0, none⟩))]) (t := 86) ?hr ?_; (case hd => rfl); (case hg => rfl); (case hr => first | (go_simp; done) | (go_simp; rfl)); intro bf hg_ w1 hm_ hb_; have GF := Aside0.mk (show w.heap.size ≤ bf by rw [hg_]; exact B_0.out.size); have B_1 := Aside0.mk (below_step B_0.out hb_); have F_1 := Aside0.mk (hm_); clear hm_ hb_ hg_) | ((with_reducible refine gate_dst (N := 7) rfl ?_); refine box_event ?hg (N := 7) ?hd (cs := #[.int .u32 (y : Int)]) (t := 30) ?hr ?_; (case hd => rfl); (case hg => rfl); (case hr => first | (go_simp; done) | (go_simp; rfl)); intro bq hg_ w2 hm_ hb_; have NEFY := Aside0.mk (show bf ≠ bq by rw [hg_]; have := blk_lt F_1.out; omega); have GY := Aside0.mk (show w.heap.size ≤ bq by rw [hg_]; exact B_1.out.size); have B_2 := Aside0.mk (below_step B_1.out hb_); have F_2 := Aside0.mk (blk_below F_1.out hb_); clear F_1; have Y_2 := Aside0.mk (hm_); clear hm_ hb_ hg_) | ((with_reducible refine gate_dst (N := 8) rfl ?_); refine box_event ?hg (N := 8) ?hd (cs := #[.int .u32 0, .int .u32 0, .bool false]) (t := 32) ?hr ?_; (case hd => rfl); (case hg => rfl); (case hr => first | (go_simp; done) | (go_simp; rfl)); intro gr hg_ w3 hm_ hb_; have NEFR := Aside0.mk (show bf ≠ gr by rw [hg_]; have := blk_lt F_2.out; omega); have NEYR := Aside0.mk (show bq ≠ gr by rw [hg_]; have := blk_lt Y_2.out; omega); have GR := Aside0.mk (show w.heap.size ≤ gr by rw [hg_]; exact B_2.out.size); have B_3 := Aside0.mk (below_step B_2.out hb_); have F_3 := Aside0.mk (blk_below F_2.out hb_); have Y_3 := Aside0.mk (blk_below Y_2.out hb_); clear F_2 Y_2; have R_3 := Aside0.mk (hm_); clear hm_ hb_ hg_))
 have B_4 : Aside0 (Below w.heap.size w w3.drew) := ⟨below_drew B_3.out⟩
 have F_4 := Aside0.mk (blk_drew F_3.out)
 have Y_4 := Aside0.mk (blk_drew Y_3.out)
 have R_4 := Aside0.mk (blk_drew R_3.out)
 clear B_3 F_3 Y_3 R_3
 refine start_ (n := 9) (S := fun w' => w'.cell? ⟨bf, 0, none⟩ = some (.iface 26 (.pointer (some ⟨g, 0, none⟩))) ∧ w'.cell? ⟨bq, 0, none⟩ = some (.int .u32 (y : Int))) (ds := []) #[ff_,ff_,ff_,ff_,ff_,ff_,ff_,ff_,ff_] (by kernel_rfl) rfl rfl ⟨(blk_cell F_4.out 0).trans rfl, (blk_cell Y_4.out 0).trans rfl⟩ (fun hHeld => ?_)
 generalize w3.drew = w4 at *
 refine take_ (i := 0) (N := some 14) (v := ?_) (a' := ?_) #[tt_,ff_,ff_,ff_,ff_,ff_,ff_,ff_,ff_] rfl rfl (by kernel_rfl) (fun _ _ _ h => h) (Or.inl ⟨by rfl, ?_⟩) hHeld ?_ ?_
 rotate_left
 ·rintro w' ⟨s0, s1⟩
  go_simp
  with_reducible rfl
 rotate_left
 ·simp only [Act.put, List.setIfInBounds_toArray, List.set_cons_zero, List.set_cons_succ, i64_w, i32_w]
  rfl
 refine one_ (i := 1) (N := some 15) #[tt_,tt_,ff_,ff_,ff_,ff_,ff_,ff_,ff_] rfl rfl (by kernel_rfl) (by decide) (fun K hK => ?_)
 refine goes_ Try.func44 (by kernel_rfl) rfl #[.int .u32 (y : Int)] (by rfl) rfl rfl (by (try simp only [List.map_toArray, List.map_cons, List.map_nil]); rfl) ?_
 with_reducible refine (IsNaN_calls y HY.out _).mono ?_
 rw [c0]
 rintro e w5 ⟨rfl, hb⟩
 refine ⟨_, rfl, ?_⟩
 have B_5 := Aside0.mk (below_step B_4.out hb)
 have F_5 := Aside0.mk (blk_below F_4.out hb)
 have Y_5 := Aside0.mk (blk_below Y_4.out hb)
 have R_5 := Aside0.mk (blk_below R_4.out hb)
 clear F_4 Y_4 R_4
 clear hb
 refine hK.out _ _ ⟨(blk_cell F_5.out 0).trans rfl, (blk_cell Y_5.out 0).trans rfl⟩ (fun hHeld => ?_)
 clear hK K
 refine norm_ (a' := ?_) ?_ ?_
 rotate_left
 ·show Act.put _ (some 15) _ = _
  simp only [Act.put, List.setIfInBounds_toArray, List.set_cons_zero, List.set_cons_succ, i64_w, i32_w]
  rfl
 refine pure_ (i := 2) (N := some 16) (v := ?_) (a' := ?_) #[tt_,tt_,tt_,ff_,ff_,ff_,ff_,ff_,ff_] rfl rfl (by kernel_rfl) (fun _ _ _ h => h) (Or.inl ⟨by rfl, ?_⟩) ?_ ?_
 rotate_left
 ·intro w'
  go_simp
  with_reducible rfl
 rotate_left
 ·simp only [Act.put, List.setIfInBounds_toArray, List.set_cons_zero, List.set_cons_succ, i64_w, i32_w]
  rfl
 refine pure_ (i := 4) (N := some 18) (v := ?_) (a' := ?_) #[tt_,tt_,tt_,ff_,tt_,ff_,ff_,ff_,ff_] rfl rfl (by kernel_rfl) (fun _ _ _ h => h) (Or.inl ⟨by rfl, ?_⟩) ?_ ?_
 rotate_left
 ·intro w'
  go_simp
  with_reducible rfl
 rotate_left
 ·simp only [Act.put, List.setIfInBounds_toArray, List.set_cons_zero, List.set_cons_succ, i64_w, i32_w]
  rfl
 refine take_ (i := 3) (N := some 17) (v := ?_) (a' := ?_) #[tt_,tt_,tt_,tt_,tt_,ff_,ff_,ff_,ff_] rfl rfl (by kernel_rfl) (fun _ _ _ h => h) (Or.inl ⟨by rfl, ?_⟩) hHeld ?_ ?_
 rotate_left
 ·rintro w' ⟨s0, s1⟩
  go_simp
  with_reducible rfl
 rotate_left
 ·simp only [Act.put, List.setIfInBounds_toArray, List.set_cons_zero, List.set_cons_succ, i64_w, i32_w]
  rfl
 refine take_ (i := 6) (N := some 20) (v := ?_) (a' := ?_) #[tt_,tt_,tt_,tt_,tt_,ff_,tt_,ff_,ff_] rfl rfl (by kernel_rfl) (fun _ _ _ h => h) (Or.inl ⟨by rfl, ?_⟩) hHeld ?_ ?_
 rotate_left
 ·rintro w' ⟨s0, s1⟩
  go_simp
  with_reducible rfl
 rotate_left
 ·simp only [Act.put, List.setIfInBounds_toArray, List.set_cons_zero, List.set_cons_succ, i64_w, i32_w]
  rfl
 refine one_ (i := 5) (N := some 19) #[tt_,tt_,tt_,tt_,tt_,tt_,tt_,ff_,ff_] rfl rfl (by kernel_rfl) (by decide) (fun K hK => ?_)
 refine goesM_ (f := 17) (.iface 26 (.pointer (some ⟨g, 0, none⟩))) #[.int .u32 ((hi : Nat) : Int)] _ (inv_c g (hi) _) (by rfl) rfl rfl (by rfl) (by (try simp only [List.map_toArray, List.map_cons, List.map_nil]); rfl) ?_
 refine (HA.out _ _ HHI.out B_5.out).mono ?_
 rintro e w6 ⟨rfl, hb⟩
 refine ⟨_, rfl, ?_⟩
 have B_6 := Aside0.mk (below_step B_5.out hb)
 have F_6 := Aside0.mk (blk_below F_5.out hb)
 have Y_6 := Aside0.mk (blk_below Y_5.out hb)
 have R_6 := Aside0.mk (blk_below R_5.out hb)
 clear F_5 Y_5 R_5
 clear hb
 refine hK.out _ _ ⟨(blk_cell F_6.out 0).trans rfl, (blk_cell Y_6.out 0).trans rfl⟩ (fun hHeld => ?_)
 clear hK K
 refine norm_ (a' := ?_) ?_ ?_
 rotate_left
 ·show Act.put _ (some 19) _ = _
  simp only [Act.put, List.setIfInBounds_toArray, List.set_cons_zero, List.set_cons_succ, i64_w, i32_w]
  rfl
 refine one_ (i := 7) (N := some 21) #[tt_,tt_,tt_,tt_,tt_,tt_,tt_,tt_,ff_] rfl rfl (by kernel_rfl) (by decide) (fun K hK => ?_)
 refine goes_ Try.func45 (by kernel_rfl) rfl #[.int .u32 ((F hi : Nat) : Int), .int .u32 (y : Int)] (by rfl) rfl rfl (by (try simp only [List.map_toArray, List.map_cons, List.map_nil]); rfl) ?_
 with_reducible refine (Less_calls _ _ HFH.out HY.out _).mono ?_
 rw [c1]
 rintro e _ ⟨rfl, rfl⟩
 refine ⟨_, rfl, ?_⟩
 refine hK.out _ _ ⟨(blk_cell F_6.out 0).trans rfl, (blk_cell Y_6.out 0).trans rfl⟩ (fun hHeld => ?_)
 clear hK K
 refine norm_ (a' := ?_) ?_ ?_
 rotate_left
 ·show Act.put _ (some 21) _ = _
  simp only [Act.put, List.setIfInBounds_toArray, List.set_cons_zero, List.set_cons_succ, i64_w, i32_w]
  rfl
 refine pure_ (i := 8) (N := some 22) (v := ?_) (a' := ?_) #[tt_,tt_,tt_,tt_,tt_,tt_,tt_,tt_,tt_] rfl rfl (by kernel_rfl) (fun _ _ _ h => h) (Or.inl ⟨by rfl, ?_⟩) ?_ ?_
 rotate_left
 ·intro w'
  go_simp
  with_reducible rfl
 rotate_left
 ·simp only [Act.put, List.setIfInBounds_toArray, List.set_cons_zero, List.set_cons_succ, i64_w, i32_w]
  rfl
 refine done_ (by kernel_rfl) ?_

 go_wp2_with (first | (go_at_call 55; (with_reducible refine (Key_calls lo HLO.out _).mono ?_); rw [HKA.out]; rintro e w7 ⟨rfl, hd⟩; have hb := hd.below; clear hd; have B_7 := Aside0.mk (below_step B_6.out hb); have F_7 := Aside0.mk (blk_below F_6.out hb); have Y_7 := Aside0.mk (blk_below Y_6.out hb); have R_7 := Aside0.mk (blk_below R_6.out hb); clear F_6 Y_6 R_6; clear hb) | (go_at_call 55; (with_reducible refine (Key_calls hi HHI.out _).mono ?_); rintro e w8 ⟨rfl, hd⟩; have hb := hd.below; clear hd; have B_8 := Aside0.mk (below_step B_7.out hb); have F_8 := Aside0.mk (blk_below F_7.out hb); have Y_8 := Aside0.mk (blk_below Y_7.out hb); have R_8 := Aside0.mk (blk_below R_7.out hb); clear F_7 Y_7 R_7; clear hb) | ((with_reducible refine gate_dst (N := 10) rfl ?_); refine box_event ?hg (N := 10) ?hd (cs := #[.int .i64 0]) (t := 3) ?hr ?_; (case hd => rfl); (case hg => rfl); (case hr => first | (go_simp; done) | (go_simp; rfl)); intro ga hg_ w9 hm_ hb_; have NEFA := Aside0.mk (show bf ≠ ga by rw [hg_]; have := blk_lt F_8.out; omega); have NEYA := Aside0.mk (show bq ≠ ga by rw [hg_]; have := blk_lt Y_8.out; omega); have NERA := Aside0.mk (show gr ≠ ga by rw [hg_]; have := blk_lt R_8.out; omega); have GA := Aside0.mk (show w.heap.size ≤ ga by rw [hg_]; exact B_8.out.size); have B_9 := Aside0.mk (below_step B_8.out hb_); have F_9 := Aside0.mk (blk_below F_8.out hb_); have Y_9 := Aside0.mk (blk_below Y_8.out hb_); have R_9 := Aside0.mk (blk_below R_8.out hb_); clear F_8 Y_8 R_8; have A_9 := Aside0.mk (hm_); have cA0 := (blk_cell A_9.out 0).trans rfl; clear hm_ hb_ hg_) | ((with_reducible refine gate_store (p := 10) rfl ?_); refine storec_event rfl rfl rfl ga 0 (.int .i64 (a : Int)) _ _ rfl rfl rfl A_9.out size3 (by simp) rfl ?_; intro w10 hm_ hst_ hbl_; clear cA0; have B_10 := Aside0.mk (B_9.out.trans (hbl_ _ GA.out)); have F_10 := Aside0.mk ((hst_ bf NEFA.out).trans F_9.out); have Y_10 := Aside0.mk ((hst_ bq NEYA.out).trans Y_9.out); have R_10 := Aside0.mk ((hst_ gr NERA.out).trans R_9.out); have A_10 := Aside0.mk (hm_); clear F_9 Y_9 R_9 A_9 hm_ hst_ hbl_; have cA0 := (blk_cell A_10.out 0).trans rfl) | (go_at_call 46; have hS := Search_calls 56 #[.pointer (some ⟨bf, 0, none⟩), .pointer (some ⟨ga, 0, none⟩), .pointer (some ⟨bq, 0, none⟩)] d (fun i => !lt (F (fk (a + i))) y) w10 eg.out HD.out (fun W i hi hb => closure56c_calls bf ga bq g a y i F W HY.out HF.out (HAD.out i hi) (fun W2 x hx h2 => HA.out W2 x hx ((below_step B_10.out hb).trans (h2.mono (below_step B_10.out hb).size))) ((blk_cell (blk_below F_10.out hb) 0).trans rfl) ((blk_cell (blk_below A_10.out hb) 0).trans rfl) ((blk_cell (blk_below Y_10.out hb) 0).trans rfl)); refine hS.mono ?_; clear hS; rintro e w11 ⟨r2, rfl, hb, hs⟩; obtain rfl : r2 = n := HU.out _ hs; clear hs; clear cA0; have B_11 := Aside0.mk (below_step B_10.out hb); have F_11 := Aside0.mk (blk_below F_10.out hb); have Y_11 := Aside0.mk (blk_below Y_10.out hb); have R_11 := Aside0.mk (blk_below R_10.out hb); have A_11 := Aside0.mk (blk_below A_10.out hb); clear F_10 Y_10 R_10 A_10; have cA0 := (blk_cell A_11.out 0).trans rfl; clear hb) | (go_at_call 57; (with_reducible refine (FromKey_calls q HQ.out _).mono ?_); rintro e w12 ⟨rfl, hd⟩; have hb := hd.below; clear hd; clear cA0; have B_12 := Aside0.mk (below_step B_11.out hb); have F_12 := Aside0.mk (blk_below F_11.out hb); have Y_12 := Aside0.mk (blk_below Y_11.out hb); have R_12 := Aside0.mk (blk_below R_11.out hb); have A_12 := Aside0.mk (blk_below A_11.out hb); clear F_11 Y_11 R_11 A_11; have cA0 := (blk_cell A_12.out 0).trans rfl; clear hb) | ((with_reducible refine gate_dst (N := 13) rfl ?_); refine box_event ?hg (N := 13) ?hd (cs := #[.int .u32 0, .int .u32 0, .bool false]) (t := 32) ?hr ?_; (case hd => rfl); (case hg => rfl); (case hr => first | (go_simp; done) | (go_simp; rfl)); intro gp hg_ w13 hm_ hb_; have NEFP := Aside0.mk (show bf ≠ gp by rw [hg_]; have := blk_lt F_12.out; omega); have NEYP := Aside0.mk (show bq ≠ gp by rw [hg_]; have := blk_lt Y_12.out; omega); have NERP := Aside0.mk (show gr ≠ gp by rw [hg_]; have := blk_lt R_12.out; omega); have NEAP := Aside0.mk (show ga ≠ gp by rw [hg_]; have := blk_lt A_12.out; omega); have GP := Aside0.mk (show w.heap.size ≤ gp by rw [hg_]; exact B_12.out.size); clear cA0; have B_13 := Aside0.mk (below_step B_12.out hb_); have F_13 := Aside0.mk (blk_below F_12.out hb_); have Y_13 := Aside0.mk (blk_below Y_12.out hb_); have R_13 := Aside0.mk (blk_below R_12.out hb_); have A_13 := Aside0.mk (blk_below A_12.out hb_); clear F_12 Y_12 R_12 A_12; have P_13 := Aside0.mk (hm_); have cA0 := (blk_cell A_13.out 0).trans rfl; have cP0 := (blk_cell P_13.out 0).trans rfl; have cP1 := (blk_cell P_13.out 1).trans rfl; have cP2 := (blk_cell P_13.out 2).trans rfl; clear hm_ hb_ hg_) | ((with_reducible refine gate_store (p := 13) rfl ?_); refine store_event rfl rfl rfl gp #[.int .u32 ((fk q : Nat) : Int), .int .u32 0, .bool true] _ 32 rfl rfl P_13.out size32 rfl (by simp [Value.oneCell']) ?_; intro w14 hm_ hst_ hbl_; clear cA0 cP0 cP1 cP2; have B_14 := Aside0.mk (B_13.out.trans (hbl_ _ GP.out)); have F_14 := Aside0.mk ((hst_ bf NEFP.out).trans F_13.out); have Y_14 := Aside0.mk ((hst_ bq NEYP.out).trans Y_13.out); have R_14 := Aside0.mk ((hst_ gr NERP.out).trans R_13.out); have A_14 := Aside0.mk ((hst_ ga NEAP.out).trans A_13.out); have P_14 := Aside0.mk (hm_); clear F_13 Y_13 R_13 A_13 P_13 hm_ hst_ hbl_; have cA0 := (blk_cell A_14.out 0).trans rfl; have cP0 := (blk_cell P_14.out 0).trans rfl; have cP1 := (blk_cell P_14.out 1).trans rfl; have cP2 := (blk_cell P_14.out 2).trans rfl) | (go_at_call 58; (with_reducible refine (Prev_calls (fk q) HFQ.out _).mono ?_); rw [HPV.out, if_neg HPN.out]; rintro e w15 ⟨rfl, hd⟩; have hb := hd.below; clear hd; clear cA0 cP0 cP1 cP2; have B_15 := Aside0.mk (below_step B_14.out hb); have F_15 := Aside0.mk (blk_below F_14.out hb); have Y_15 := Aside0.mk (blk_below Y_14.out hb); have R_15 := Aside0.mk (blk_below R_14.out hb); have A_15 := Aside0.mk (blk_below A_14.out hb); have P_15 := Aside0.mk (blk_below P_14.out hb); clear F_14 Y_14 R_14 A_14 P_14; have cA0 := (blk_cell A_15.out 0).trans rfl; have cP0 := (blk_cell P_15.out 0).trans rfl; have cP1 := (blk_cell P_15.out 1).trans rfl; have cP2 := (blk_cell P_15.out 2).trans rfl; clear hb) | ((with_reducible refine gate_store (p := 51) rfl ?_); refine storec_event rfl rfl rfl gp 1 (.int .u32 ((fk (q - 1) : Nat) : Int)) _ _ rfl rfl rfl P_15.out size30 (by simp) rfl ?_; intro w16 hm_ hst_ hbl_; clear cA0 cP0 cP1 cP2; have B_16 := Aside0.mk (B_15.out.trans (hbl_ _ GP.out)); have F_16 := Aside0.mk ((hst_ bf NEFP.out).trans F_15.out); have Y_16 := Aside0.mk ((hst_ bq NEYP.out).trans Y_15.out); have R_16 := Aside0.mk ((hst_ gr NERP.out).trans R_15.out); have A_16 := Aside0.mk ((hst_ ga NEAP.out).trans A_15.out); have P_16 := Aside0.mk (hm_); clear F_15 Y_15 R_15 A_15 P_15 hm_ hst_ hbl_; have cA0 := (blk_cell A_16.out 0).trans rfl; have cP0 := (blk_cell P_16.out 0).trans rfl; have cP1 := (blk_cell P_16.out 1).trans rfl; have cP2 := (blk_cell P_16.out 2).trans rfl) | ((with_reducible refine gate_dst (N := 52) rfl ?_); refine Kd.event_run rfl (v := .agg #[.int .u32 ((fk q : Nat) : Int), .int .u32 ((fk (q - 1) : Nat) : Int), .bool true]) (w1 := w16) ?hr ?_; (case hr => exact load32 (by rfl) rfl (P_16.out))) | ((with_reducible refine gate_store (p := 8) rfl ?_); refine store_event rfl rfl rfl gr #[.int .u32 ((fk q : Nat) : Int), .int .u32 ((fk (q - 1) : Nat) : Int), .bool true] _ 32 rfl rfl R_16.out size32 rfl (by simp [Value.oneCell']) ?_; intro w17 hm_ hst_ hbl_; clear cA0 cP0 cP1 cP2; have B_17 := Aside0.mk (B_16.out.trans (hbl_ _ GR.out)); have F_17 := Aside0.mk ((hst_ bf NEFR.out).trans F_16.out); have Y_17 := Aside0.mk ((hst_ bq NEYR.out).trans Y_16.out); have A_17 := Aside0.mk ((hst_ ga NERA.out.symm).trans A_16.out); have P_17 := Aside0.mk ((hst_ gp NERP.out.symm).trans P_16.out); have R_17 := Aside0.mk (hm_); clear F_16 Y_16 R_16 A_16 P_16 hm_ hst_ hbl_; have cA0 := (blk_cell A_17.out 0).trans rfl; have cP0 := (blk_cell P_17.out 0).trans rfl; have cP1 := (blk_cell P_17.out 1).trans rfl; have cP2 := (blk_cell P_17.out 2).trans rfl))
 refine bodyPost_ret (results_ct rfl _ _ gr 32 #[.int .u32 ((fk q : Nat) : Int), .int .u32 ((fk (q - 1) : Nat) : Int), .bool true] (0, 0) _ rfl R_17.out Try.underlying32 rfl (by kernel_rfl)) rfl ?_
 exact ⟨rfl, B_17.out⟩
set_option maxHeartbeats 4000000 in
theorem first_nanh (g lo hi y : Nat) (F : Nat → Nat) (w : World) (hlo : lo < 4294967296) (hhi : hi < 4294967296) (hy : y < 4294967296) (hF : ∀ x, x < 4294967296 → F x < 4294967296) (hA : ∀ (W : World) (x : Nat), x < 4294967296 → Below w.heap.size w W → Calls Try.prog 22 #[.pointer (some ⟨g, 0, none⟩), .int .u32 (x : Int)] W fun e w' => e = .returned (.int .u32 ((F x : Nat) : Int)) ∧ Below W.heap.size W w') (c0 : isnan y = true) :
    Calls Try.prog 41 #[.iface 48 (.pointer (some ⟨g, 0, none⟩)), .int .u32 (lo : Int), .int .u32 (hi : Int), .int .u32 (y : Int)] w fun e w' => e = .returned (.tuple #[.agg #[.int .u32 0, .int .u32 0, .bool false], .int .i64 43]) ∧ Below w.heap.size w w' := by
 have HA := Aside0.mk hA
 have HY := Aside0.mk hy
 have HLO := Aside0.mk hlo
 have HHI := Aside0.mk hhi
 have HF := Aside0.mk hF
 have B_0 : Aside0 (Below w.heap.size w w) := ⟨Below.refl _ _⟩
 clear hlo hhi hy hF hA
 go_enter Try.func41, Try.ntmps41
 go_wp2_with (first | ((with_reducible refine gate_dst (N := 4) rfl ?_); refine box_event ?hg (N := 4) ?hd (cs := #[.iface 48 (.pointer (some ⟨g, 0, none⟩))]) (t := 86) ?hr ?_; (case hd => rfl); (case hg => rfl); (case hr => first | (go_simp; done) | (go_simp; rfl)); intro bf hg_ w1 hm_ hb_; have GF := Aside0.mk (show w.heap.size ≤ bf by rw [hg_]; exact B_0.out.size); have B_1 := Aside0.mk (below_step B_0.out hb_); have F_1 := Aside0.mk (hm_); clear hm_ hb_ hg_) | ((with_reducible refine gate_dst (N := 7) rfl ?_); refine box_event ?hg (N := 7) ?hd (cs := #[.int .u32 (y : Int)]) (t := 30) ?hr ?_; (case hd => rfl); (case hg => rfl); (case hr => first | (go_simp; done) | (go_simp; rfl)); intro bq hg_ w2 hm_ hb_; have NEFY := Aside0.mk (show bf ≠ bq by rw [hg_]; have := blk_lt F_1.out; omega); have GY := Aside0.mk (show w.heap.size ≤ bq by rw [hg_]; exact B_1.out.size); have B_2 := Aside0.mk (below_step B_1.out hb_); have F_2 := Aside0.mk (blk_below F_1.out hb_); clear F_1; have Y_2 := Aside0.mk (hm_); clear hm_ hb_ hg_) | ((with_reducible refine gate_dst (N := 8) rfl ?_); refine box_event ?hg (N := 8) ?hd (cs := #[.int .u32 0, .int .u32 0, .bool false]) (t := 32) ?hr ?_; (case hd => rfl); (case hg => rfl); (case hr => first | (go_simp; done) | (go_simp; rfl)); intro gr hg_ w3 hm_ hb_; have NEFR := Aside0.mk (show bf ≠ gr by rw [hg_]; have := blk_lt F_2.out; omega); have NEYR := Aside0.mk (show bq ≠ gr by rw [hg_]; have := blk_lt Y_2.out; omega); have GR := Aside0.mk (show w.heap.size ≤ gr by rw [hg_]; exact B_2.out.size); have B_3 := Aside0.mk (below_step B_2.out hb_); have F_3 := Aside0.mk (blk_below F_2.out hb_); have Y_3 := Aside0.mk (blk_below Y_2.out hb_); clear F_2 Y_2; have R_3 := Aside0.mk (hm_); clear hm_ hb_ hg_))
 have B_4 : Aside0 (Below w.heap.size w w3.drew) := ⟨below_drew B_3.out⟩
 have F_4 := Aside0.mk (blk_drew F_3.out)
 have Y_4 := Aside0.mk (blk_drew Y_3.out)
 have R_4 := Aside0.mk (blk_drew R_3.out)
 clear B_3 F_3 Y_3 R_3
 refine start_ (n := 9) (S := fun w' => w'.cell? ⟨bf, 0, none⟩ = some (.iface 48 (.pointer (some ⟨g, 0, none⟩))) ∧ w'.cell? ⟨bq, 0, none⟩ = some (.int .u32 (y : Int))) (ds := []) #[ff_,ff_,ff_,ff_,ff_,ff_,ff_,ff_,ff_] (by kernel_rfl) rfl rfl ⟨(blk_cell F_4.out 0).trans rfl, (blk_cell Y_4.out 0).trans rfl⟩ (fun hHeld => ?_)
 generalize w3.drew = w4 at *
 refine take_ (i := 0) (N := some 14) (v := ?_) (a' := ?_) #[tt_,ff_,ff_,ff_,ff_,ff_,ff_,ff_,ff_] rfl rfl (by kernel_rfl) (fun _ _ _ h => h) (Or.inl ⟨by rfl, ?_⟩) hHeld ?_ ?_
 rotate_left
 ·rintro w' ⟨s0, s1⟩
  go_simp
  with_reducible rfl
 rotate_left
 ·simp only [Act.put, List.setIfInBounds_toArray, List.set_cons_zero, List.set_cons_succ, i64_w, i32_w]
  rfl
 refine one_ (i := 1) (N := some 15) #[tt_,tt_,ff_,ff_,ff_,ff_,ff_,ff_,ff_] rfl rfl (by kernel_rfl) (by decide) (fun K hK => ?_)
 refine goes_ Try.func44 (by kernel_rfl) rfl #[.int .u32 (y : Int)] (by rfl) rfl rfl (by (try simp only [List.map_toArray, List.map_cons, List.map_nil]); rfl) ?_
 with_reducible refine (IsNaN_calls y HY.out _).mono ?_
 rw [c0]
 rintro e w5 ⟨rfl, hb⟩
 refine ⟨_, rfl, ?_⟩
 have B_5 := Aside0.mk (below_step B_4.out hb)
 have F_5 := Aside0.mk (blk_below F_4.out hb)
 have Y_5 := Aside0.mk (blk_below Y_4.out hb)
 have R_5 := Aside0.mk (blk_below R_4.out hb)
 clear F_4 Y_4 R_4
 clear hb
 refine hK.out _ _ ⟨(blk_cell F_5.out 0).trans rfl, (blk_cell Y_5.out 0).trans rfl⟩ (fun hHeld => ?_)
 clear hK K
 refine norm_ (a' := ?_) ?_ ?_
 rotate_left
 ·show Act.put _ (some 15) _ = _
  simp only [Act.put, List.setIfInBounds_toArray, List.set_cons_zero, List.set_cons_succ, i64_w, i32_w]
  rfl
 refine pure_ (i := 2) (N := some 16) (v := ?_) (a' := ?_) #[tt_,tt_,tt_,ff_,ff_,ff_,ff_,ff_,ff_] rfl rfl (by kernel_rfl) (fun _ _ _ h => h) (Or.inl ⟨by rfl, ?_⟩) ?_ ?_
 rotate_left
 ·intro w'
  go_simp
  with_reducible rfl
 rotate_left
 ·simp only [Act.put, List.setIfInBounds_toArray, List.set_cons_zero, List.set_cons_succ, i64_w, i32_w]
  rfl
 refine pure_ (i := 3) (N := some 17) (v := undef) (a' := ?_) #[tt_,tt_,tt_,tt_,ff_,ff_,ff_,ff_,ff_] rfl rfl (by kernel_rfl) (fun _ _ _ h => h) (Or.inr ⟨by rfl, rfl⟩) ?_ ?_
 rotate_left
 ·simp only [Act.put, List.setIfInBounds_toArray, List.set_cons_zero, List.set_cons_succ, i64_w, i32_w]
  rfl
 refine pure_ (i := 4) (N := some 18) (v := undef) (a' := ?_) #[tt_,tt_,tt_,tt_,tt_,ff_,ff_,ff_,ff_] rfl rfl (by kernel_rfl) (fun _ _ _ h => h) (Or.inr ⟨by rfl, rfl⟩) ?_ ?_
 rotate_left
 ·simp only [Act.put, List.setIfInBounds_toArray, List.set_cons_zero, List.set_cons_succ, i64_w, i32_w]
  rfl
 refine pure_ (i := 5) (N := some 19) (v := undef) (a' := ?_) #[tt_,tt_,tt_,tt_,tt_,tt_,ff_,ff_,ff_] rfl rfl (by kernel_rfl) (fun _ _ _ h => h) (Or.inr ⟨by rfl, rfl⟩) ?_ ?_
 rotate_left
 ·simp only [Act.put, List.setIfInBounds_toArray, List.set_cons_zero, List.set_cons_succ, i64_w, i32_w]
  rfl
 refine pure_ (i := 6) (N := some 20) (v := undef) (a' := ?_) #[tt_,tt_,tt_,tt_,tt_,tt_,tt_,ff_,ff_] rfl rfl (by kernel_rfl) (fun _ _ _ h => h) (Or.inr ⟨by rfl, rfl⟩) ?_ ?_
 rotate_left
 ·simp only [Act.put, List.setIfInBounds_toArray, List.set_cons_zero, List.set_cons_succ, i64_w, i32_w]
  rfl
 refine pure_ (i := 7) (N := some 21) (v := undef) (a' := ?_) #[tt_,tt_,tt_,tt_,tt_,tt_,tt_,tt_,ff_] rfl rfl (by kernel_rfl) (fun _ _ _ h => h) (Or.inr ⟨by rfl, rfl⟩) ?_ ?_
 rotate_left
 ·simp only [Act.put, List.setIfInBounds_toArray, List.set_cons_zero, List.set_cons_succ, i64_w, i32_w]
  rfl
 refine pure_ (i := 8) (N := some 22) (v := ?_) (a' := ?_) #[tt_,tt_,tt_,tt_,tt_,tt_,tt_,tt_,tt_] rfl rfl (by kernel_rfl) (fun _ _ _ h => h) (Or.inl ⟨by rfl, ?_⟩) ?_ ?_
 rotate_left
 ·intro w'
  go_simp
  with_reducible rfl
 rotate_left
 ·simp only [Act.put, List.setIfInBounds_toArray, List.set_cons_zero, List.set_cons_succ, i64_w, i32_w]
  rfl
 refine done_ (by kernel_rfl) ?_

 go_wp2_with (first | ((with_reducible refine gate_store (p := 8) rfl ?_); refine store_event rfl rfl rfl gr #[.int .u32 0, .int .u32 0, .bool false] _ 32 rfl rfl R_5.out size32 rfl (by simp [Value.oneCell']) ?_; intro w6 hm_ hst_ hbl_; have B_6 := Aside0.mk (B_5.out.trans (hbl_ _ GR.out)); have F_6 := Aside0.mk ((hst_ bf NEFR.out).trans F_5.out); have Y_6 := Aside0.mk ((hst_ bq NEYR.out).trans Y_5.out); have R_6 := Aside0.mk (hm_); clear F_5 Y_5 R_5 hm_ hst_ hbl_))
 refine bodyPost_ret (results_ct rfl _ _ gr 32 #[.int .u32 0, .int .u32 0, .bool false] (0, 0) _ rfl R_6.out Try.underlying32 rfl (by kernel_rfl)) rfl ?_
 exact ⟨rfl, B_6.out⟩
set_option maxHeartbeats 4000000 in
theorem first_farh (g lo hi y : Nat) (F : Nat → Nat) (w : World) (hlo : lo < 4294967296) (hhi : hi < 4294967296) (hy : y < 4294967296) (hF : ∀ x, x < 4294967296 → F x < 4294967296) (hA : ∀ (W : World) (x : Nat), x < 4294967296 → Below w.heap.size w W → Calls Try.prog 22 #[.pointer (some ⟨g, 0, none⟩), .int .u32 (x : Int)] W fun e w' => e = .returned (.int .u32 ((F x : Nat) : Int)) ∧ Below W.heap.size W w') (c0 : isnan y = false) (c1 : lt (F hi) y = true) :
    Calls Try.prog 41 #[.iface 48 (.pointer (some ⟨g, 0, none⟩)), .int .u32 (lo : Int), .int .u32 (hi : Int), .int .u32 (y : Int)] w fun e w' => e = .returned (.tuple #[.agg #[.int .u32 0, .int .u32 0, .bool false], .int .i64 43]) ∧ Below w.heap.size w w' := by
 have HA := Aside0.mk hA
 have HY := Aside0.mk hy
 have HLO := Aside0.mk hlo
 have HHI := Aside0.mk hhi
 have HF := Aside0.mk hF
 have HFH : Aside0 (F hi < 4294967296) := ⟨hF _ hhi⟩
 have B_0 : Aside0 (Below w.heap.size w w) := ⟨Below.refl _ _⟩
 clear hlo hhi hy hF hA
 go_enter Try.func41, Try.ntmps41
 go_wp2_with (first | ((with_reducible refine gate_dst (N := 4) rfl ?_); refine box_event ?hg (N := 4) ?hd (cs := #[.iface 48 (.pointer (some ⟨g, 0, none⟩))]) (t := 86) ?hr ?_; (case hd => rfl); (case hg => rfl); (case hr => first | (go_simp; done) | (go_simp; rfl)); intro bf hg_ w1 hm_ hb_; have GF := Aside0.mk (show w.heap.size ≤ bf by rw [hg_]; exact B_0.out.size); have B_1 := Aside0.mk (below_step B_0.out hb_); have F_1 := Aside0.mk (hm_); clear hm_ hb_ hg_) | ((with_reducible refine gate_dst (N := 7) rfl ?_); refine box_event ?hg (N := 7) ?hd (cs := #[.int .u32 (y : Int)]) (t := 30) ?hr ?_; (case hd => rfl); (case hg => rfl); (case hr => first | (go_simp; done) | (go_simp; rfl)); intro bq hg_ w2 hm_ hb_; have NEFY := Aside0.mk (show bf ≠ bq by rw [hg_]; have := blk_lt F_1.out; omega); have GY := Aside0.mk (show w.heap.size ≤ bq by rw [hg_]; exact B_1.out.size); have B_2 := Aside0.mk (below_step B_1.out hb_); have F_2 := Aside0.mk (blk_below F_1.out hb_); clear F_1; have Y_2 := Aside0.mk (hm_); clear hm_ hb_ hg_) | ((with_reducible refine gate_dst (N := 8) rfl ?_); refine box_event ?hg (N := 8) ?hd (cs := #[.int .u32 0, .int .u32 0, .bool false]) (t := 32) ?hr ?_; (case hd => rfl); (case hg => rfl); (case hr => first | (go_simp; done) | (go_simp; rfl)); intro gr hg_ w3 hm_ hb_; have NEFR := Aside0.mk (show bf ≠ gr by rw [hg_]; have := blk_lt F_2.out; omega); have NEYR := Aside0.mk (show bq ≠ gr by rw [hg_]; have := blk_lt Y_2.out; omega); have GR := Aside0.mk (show w.heap.size ≤ gr by rw [hg_]; exact B_2.out.size); have B_3 := Aside0.mk (below_step B_2.out hb_); have F_3 := Aside0.mk (blk_below F_2.out hb_); have Y_3 := Aside0.mk (blk_below Y_2.out hb_); clear F_2 Y_2; have R_3 := Aside0.mk (hm_); clear hm_ hb_ hg_))
 have B_4 : Aside0 (Below w.heap.size w w3.drew) := ⟨below_drew B_3.out⟩
 have F_4 := Aside0.mk (blk_drew F_3.out)
 have Y_4 := Aside0.mk (blk_drew Y_3.out)
 have R_4 := Aside0.mk (blk_drew R_3.out)
 clear B_3 F_3 Y_3 R_3
 refine start_ (n := 9) (S := fun w' => w'.cell? ⟨bf, 0, none⟩ = some (.iface 48 (.pointer (some ⟨g, 0, none⟩))) ∧ w'.cell? ⟨bq, 0, none⟩ = some (.int .u32 (y : Int))) (ds := []) #[ff_,ff_,ff_,ff_,ff_,ff_,ff_,ff_,ff_] (by kernel_rfl) rfl rfl ⟨(blk_cell F_4.out 0).trans rfl, (blk_cell Y_4.out 0).trans rfl⟩ (fun hHeld => ?_)
 generalize w3.drew = w4 at *
 refine take_ (i := 0) (N := some 14) (v := ?_) (a' := ?_) #[tt_,ff_,ff_,ff_,ff_,ff_,ff_,ff_,ff_] rfl rfl (by kernel_rfl) (fun _ _ _ h => h) (Or.inl ⟨by rfl, ?_⟩) hHeld ?_ ?_
 rotate_left
 ·rintro w' ⟨s0, s1⟩
  go_simp
  with_reducible rfl
 rotate_left
 ·simp only [Act.put, List.setIfInBounds_toArray, List.set_cons_zero, List.set_cons_succ, i64_w, i32_w]
  rfl
 refine one_ (i := 1) (N := some 15) #[tt_,tt_,ff_,ff_,ff_,ff_,ff_,ff_,ff_] rfl rfl (by kernel_rfl) (by decide) (fun K hK => ?_)
 refine goes_ Try.func44 (by kernel_rfl) rfl #[.int .u32 (y : Int)] (by rfl) rfl rfl (by (try simp only [List.map_toArray, List.map_cons, List.map_nil]); rfl) ?_
 with_reducible refine (IsNaN_calls y HY.out _).mono ?_
 rw [c0]
 rintro e w5 ⟨rfl, hb⟩
 refine ⟨_, rfl, ?_⟩
 have B_5 := Aside0.mk (below_step B_4.out hb)
 have F_5 := Aside0.mk (blk_below F_4.out hb)
 have Y_5 := Aside0.mk (blk_below Y_4.out hb)
 have R_5 := Aside0.mk (blk_below R_4.out hb)
 clear F_4 Y_4 R_4
 clear hb
 refine hK.out _ _ ⟨(blk_cell F_5.out 0).trans rfl, (blk_cell Y_5.out 0).trans rfl⟩ (fun hHeld => ?_)
 clear hK K
 refine norm_ (a' := ?_) ?_ ?_
 rotate_left
 ·show Act.put _ (some 15) _ = _
  simp only [Act.put, List.setIfInBounds_toArray, List.set_cons_zero, List.set_cons_succ, i64_w, i32_w]
  rfl
 refine pure_ (i := 2) (N := some 16) (v := ?_) (a' := ?_) #[tt_,tt_,tt_,ff_,ff_,ff_,ff_,ff_,ff_] rfl rfl (by kernel_rfl) (fun _ _ _ h => h) (Or.inl ⟨by rfl, ?_⟩) ?_ ?_
 rotate_left
 ·intro w'
  go_simp
  with_reducible rfl
 rotate_left
 ·simp only [Act.put, List.setIfInBounds_toArray, List.set_cons_zero, List.set_cons_succ, i64_w, i32_w]
  rfl
 refine pure_ (i := 4) (N := some 18) (v := ?_) (a' := ?_) #[tt_,tt_,tt_,ff_,tt_,ff_,ff_,ff_,ff_] rfl rfl (by kernel_rfl) (fun _ _ _ h => h) (Or.inl ⟨by rfl, ?_⟩) ?_ ?_
 rotate_left
 ·intro w'
  go_simp
  with_reducible rfl
 rotate_left
 ·simp only [Act.put, List.setIfInBounds_toArray, List.set_cons_zero, List.set_cons_succ, i64_w, i32_w]
  rfl
 refine take_ (i := 3) (N := some 17) (v := ?_) (a' := ?_) #[tt_,tt_,tt_,tt_,tt_,ff_,ff_,ff_,ff_] rfl rfl (by kernel_rfl) (fun _ _ _ h => h) (Or.inl ⟨by rfl, ?_⟩) hHeld ?_ ?_
 rotate_left
 ·rintro w' ⟨s0, s1⟩
  go_simp
  with_reducible rfl
 rotate_left
 ·simp only [Act.put, List.setIfInBounds_toArray, List.set_cons_zero, List.set_cons_succ, i64_w, i32_w]
  rfl
 refine take_ (i := 6) (N := some 20) (v := ?_) (a' := ?_) #[tt_,tt_,tt_,tt_,tt_,ff_,tt_,ff_,ff_] rfl rfl (by kernel_rfl) (fun _ _ _ h => h) (Or.inl ⟨by rfl, ?_⟩) hHeld ?_ ?_
 rotate_left
 ·rintro w' ⟨s0, s1⟩
  go_simp
  with_reducible rfl
 rotate_left
 ·simp only [Act.put, List.setIfInBounds_toArray, List.set_cons_zero, List.set_cons_succ, i64_w, i32_w]
  rfl
 refine one_ (i := 5) (N := some 19) #[tt_,tt_,tt_,tt_,tt_,tt_,tt_,ff_,ff_] rfl rfl (by kernel_rfl) (by decide) (fun K hK => ?_)
 refine goesM_ (f := 22) (.iface 48 (.pointer (some ⟨g, 0, none⟩))) #[.int .u32 ((hi : Nat) : Int)] _ (inv_h g (hi) _) (by rfl) rfl rfl (by rfl) (by (try simp only [List.map_toArray, List.map_cons, List.map_nil]); rfl) ?_
 refine (HA.out _ _ HHI.out B_5.out).mono ?_
 rintro e w6 ⟨rfl, hb⟩
 refine ⟨_, rfl, ?_⟩
 have B_6 := Aside0.mk (below_step B_5.out hb)
 have F_6 := Aside0.mk (blk_below F_5.out hb)
 have Y_6 := Aside0.mk (blk_below Y_5.out hb)
 have R_6 := Aside0.mk (blk_below R_5.out hb)
 clear F_5 Y_5 R_5
 clear hb
 refine hK.out _ _ ⟨(blk_cell F_6.out 0).trans rfl, (blk_cell Y_6.out 0).trans rfl⟩ (fun hHeld => ?_)
 clear hK K
 refine norm_ (a' := ?_) ?_ ?_
 rotate_left
 ·show Act.put _ (some 19) _ = _
  simp only [Act.put, List.setIfInBounds_toArray, List.set_cons_zero, List.set_cons_succ, i64_w, i32_w]
  rfl
 refine one_ (i := 7) (N := some 21) #[tt_,tt_,tt_,tt_,tt_,tt_,tt_,tt_,ff_] rfl rfl (by kernel_rfl) (by decide) (fun K hK => ?_)
 refine goes_ Try.func45 (by kernel_rfl) rfl #[.int .u32 ((F hi : Nat) : Int), .int .u32 (y : Int)] (by rfl) rfl rfl (by (try simp only [List.map_toArray, List.map_cons, List.map_nil]); rfl) ?_
 with_reducible refine (Less_calls _ _ HFH.out HY.out _).mono ?_
 rw [c1]
 rintro e _ ⟨rfl, rfl⟩
 refine ⟨_, rfl, ?_⟩
 refine hK.out _ _ ⟨(blk_cell F_6.out 0).trans rfl, (blk_cell Y_6.out 0).trans rfl⟩ (fun hHeld => ?_)
 clear hK K
 refine norm_ (a' := ?_) ?_ ?_
 rotate_left
 ·show Act.put _ (some 21) _ = _
  simp only [Act.put, List.setIfInBounds_toArray, List.set_cons_zero, List.set_cons_succ, i64_w, i32_w]
  rfl
 refine pure_ (i := 8) (N := some 22) (v := ?_) (a' := ?_) #[tt_,tt_,tt_,tt_,tt_,tt_,tt_,tt_,tt_] rfl rfl (by kernel_rfl) (fun _ _ _ h => h) (Or.inl ⟨by rfl, ?_⟩) ?_ ?_
 rotate_left
 ·intro w'
  go_simp
  with_reducible rfl
 rotate_left
 ·simp only [Act.put, List.setIfInBounds_toArray, List.set_cons_zero, List.set_cons_succ, i64_w, i32_w]
  rfl
 refine done_ (by kernel_rfl) ?_

 go_wp2_with (first | ((with_reducible refine gate_store (p := 8) rfl ?_); refine store_event rfl rfl rfl gr #[.int .u32 0, .int .u32 0, .bool false] _ 32 rfl rfl R_6.out size32 rfl (by simp [Value.oneCell']) ?_; intro w7 hm_ hst_ hbl_; have B_7 := Aside0.mk (B_6.out.trans (hbl_ _ GR.out)); have F_7 := Aside0.mk ((hst_ bf NEFR.out).trans F_6.out); have Y_7 := Aside0.mk ((hst_ bq NEYR.out).trans Y_6.out); have R_7 := Aside0.mk (hm_); clear F_6 Y_6 R_6 hm_ hst_ hbl_))
 refine bodyPost_ret (results_ct rfl _ _ gr 32 #[.int .u32 0, .int .u32 0, .bool false] (0, 0) _ rfl R_7.out Try.underlying32 rfl (by kernel_rfl)) rfl ?_
 exact ⟨rfl, B_7.out⟩
set_option maxHeartbeats 4000000 in
theorem first_zeroh (g lo hi y : Nat) (F : Nat → Nat) (w : World) (hlo : lo < 4294967296) (hhi : hi < 4294967296) (hy : y < 4294967296) (hF : ∀ x, x < 4294967296 → F x < 4294967296) (hA : ∀ (W : World) (x : Nat), x < 4294967296 → Below w.heap.size w W → Calls Try.prog 22 #[.pointer (some ⟨g, 0, none⟩), .int .u32 (x : Int)] W fun e w' => e = .returned (.int .u32 ((F x : Nat) : Int)) ∧ Below W.heap.size W w') (c0 : isnan y = false) (c1 : lt (F hi) y = false) (hk : kf lo ≤ kf hi) (n : Nat) (h0 : n = 0) (hnd : n ≤ kf hi - kf lo) (hu : ∀ r, Srch (fun i => !lt (F (fk (kf lo + i))) y) (kf hi - kf lo) r → r = n) :
    Calls Try.prog 41 #[.iface 48 (.pointer (some ⟨g, 0, none⟩)), .int .u32 (lo : Int), .int .u32 (hi : Int), .int .u32 (y : Int)] w fun e w' => e = .returned (.tuple #[.agg #[.int .u32 ((fk (kf lo + n) : Nat) : Int), .int .u32 0, .bool false], .int .i64 0]) ∧ Below w.heap.size w w' := by
 have HA := Aside0.mk hA
 have HY := Aside0.mk hy
 have HLO := Aside0.mk hlo
 have HHI := Aside0.mk hhi
 have HF := Aside0.mk hF
 have HFH : Aside0 (F hi < 4294967296) := ⟨hF _ hhi⟩
 have hw := kf_word hhi
 have hwl := kf_word hlo
 obtain ⟨a, ha⟩ : ∃ a, kf lo = a := ⟨_, rfl⟩
 obtain ⟨d, hd⟩ : ∃ d, kf hi = a + d := ⟨kf hi - kf lo, by omega⟩
 obtain ⟨q, hq⟩ : ∃ q, a + n = q := ⟨_, rfl⟩
 rw [ha] at hu hk hwl
 have HKA := Aside0.mk ha
 have hn : n ≤ d := by omega
 have hu' : ∀ r, Srch (fun i => !lt (F (fk (a + i))) y) d r → r = n := fun r h => hu r (by rw [hd, Nat.add_sub_cancel_left]; exact h)
 have HU := Aside0.mk hu'
 have HD : Aside0 (d < 4611686018427387904) := ⟨by omega⟩
 have HAD : Aside0 (∀ i, i < d → a + i < 4294967296) := ⟨fun i hi => by omega⟩
 have HQ : Aside0 (q < 4294967296) := ⟨by omega⟩
 have wd : IntKind.i64.wrap ((kf hi : Int) - (a : Int)) = (d : Int) := by rw [show IntKind.i64.wrap ((kf hi : Int) - (a : Int)) = wrap64 ((kf hi : Int) - (a : Int)) from i64_w _, w64 (by omega) (by omega)]; omega
 have wq : IntKind.i64.wrap ((a : Int) + (n : Int)) = (q : Int) := by rw [show IntKind.i64.wrap ((a : Int) + (n : Int)) = wrap64 ((a : Int) + (n : Int)) from i64_w _, w64 (by omega) (by omega)]; omega
 have wq2 : IntKind.u32.wrap (q : Int) = (q : Int) := by rw [IntKind.wrap_u32]; omega
 have wa : IntKind.i64.wrap (a : Int) = (a : Int) := by rw [show IntKind.i64.wrap (a : Int) = wrap64 (a : Int) from i64_w _, w64 (by omega) (by omega)]
 have wh : IntKind.i64.wrap ((kf hi : Nat) : Int) = ((kf hi : Nat) : Int) := by rw [show IntKind.i64.wrap ((kf hi : Nat) : Int) = wrap64 ((kf hi : Nat) : Int) from i64_w _, w64 (by omega) (by omega)]
 have eg : Aside0 (∀ args w, (callFunc 56 args).run Try.prog w = .ok (.enter 56 args) w) := ⟨enters_of Try.func56 (by kernel_rfl) rfl⟩
 have tg : decide ((n : Int) > 0) = false := decide_eq_false (by omega)
 have tg2 : (0 < n) = False := eq_false (by omega)
 rw [ha]
 rw [hq]
 clear hnd hlo hhi hy hF hA hu hk hw hwl ha hd hq hn hu' h0
 have B_0 : Aside0 (Below w.heap.size w w) := ⟨Below.refl _ _⟩
 go_enter Try.func41, Try.ntmps41
 go_wp2_with (first | ((with_reducible refine gate_dst (N := 4) rfl ?_); refine box_event ?hg (N := 4) ?hd (cs := #[.iface 48 (.pointer (some ⟨g, 0, none⟩))]) (t := 86) ?hr ?_; (case hd => rfl); (case hg => rfl); (case hr => first | (go_simp; done) | (go_simp; rfl)); intro bf hg_ w1 hm_ hb_; have GF := Aside0.mk (show w.heap.size ≤ bf by rw [hg_]; exact B_0.out.size); have B_1 := Aside0.mk (below_step B_0.out hb_); have F_1 := Aside0.mk (hm_); clear hm_ hb_ hg_) | ((with_reducible refine gate_dst (N := 7) rfl ?_); refine box_event ?hg (N := 7) ?hd (cs := #[.int .u32 (y : Int)]) (t := 30) ?hr ?_; (case hd => rfl); (case hg => rfl); (case hr => first | (go_simp; done) | (go_simp; rfl)); intro bq hg_ w2 hm_ hb_; have NEFY := Aside0.mk (show bf ≠ bq by rw [hg_]; have := blk_lt F_1.out; omega); have GY := Aside0.mk (show w.heap.size ≤ bq by rw [hg_]; exact B_1.out.size); have B_2 := Aside0.mk (below_step B_1.out hb_); have F_2 := Aside0.mk (blk_below F_1.out hb_); clear F_1; have Y_2 := Aside0.mk (hm_); clear hm_ hb_ hg_) | ((with_reducible refine gate_dst (N := 8) rfl ?_); refine box_event ?hg (N := 8) ?hd (cs := #[.int .u32 0, .int .u32 0, .bool false]) (t := 32) ?hr ?_; (case hd => rfl); (case hg => rfl); (case hr => first | (go_simp; done) | (go_simp; rfl)); intro gr hg_ w3 hm_ hb_; have NEFR := Aside0.mk (show bf ≠ gr by rw [hg_]; have := blk_lt F_2.out; omega); have NEYR := Aside0.mk (show bq ≠ gr by rw [hg_]; have := blk_lt Y_2.out; omega); have GR := Aside0.mk (show w.heap.size ≤ gr by rw [hg_]; exact B_2.out.size); have B_3 := Aside0.mk (below_step B_2.out hb_); have F_3 := Aside0.mk (blk_below F_2.out hb_); have Y_3 := Aside0.mk (blk_below Y_2.out hb_); clear F_2 Y_2; have R_3 := Aside0.mk (hm_); clear hm_ hb_ hg_))
 have B_4 : Aside0 (Below w.heap.size w w3.drew) := ⟨below_drew B_3.out⟩
 have F_4 := Aside0.mk (blk_drew F_3.out)
 have Y_4 := Aside0.mk (blk_drew Y_3.out)
 have R_4 := Aside0.mk (blk_drew R_3.out)
 clear B_3 F_3 Y_3 R_3
 refine start_ (n := 9) (S := fun w' => w'.cell? ⟨bf, 0, none⟩ = some (.iface 48 (.pointer (some ⟨g, 0, none⟩))) ∧ w'.cell? ⟨bq, 0, none⟩ = some (.int .u32 (y : Int))) (ds := []) #[ff_,ff_,ff_,ff_,ff_,ff_,ff_,ff_,ff_] (by kernel_rfl) rfl rfl ⟨(blk_cell F_4.out 0).trans rfl, (blk_cell Y_4.out 0).trans rfl⟩ (fun hHeld => ?_)
 generalize w3.drew = w4 at *
 refine take_ (i := 0) (N := some 14) (v := ?_) (a' := ?_) #[tt_,ff_,ff_,ff_,ff_,ff_,ff_,ff_,ff_] rfl rfl (by kernel_rfl) (fun _ _ _ h => h) (Or.inl ⟨by rfl, ?_⟩) hHeld ?_ ?_
 rotate_left
 ·rintro w' ⟨s0, s1⟩
  go_simp
  with_reducible rfl
 rotate_left
 ·simp only [Act.put, List.setIfInBounds_toArray, List.set_cons_zero, List.set_cons_succ, i64_w, i32_w]
  rfl
 refine one_ (i := 1) (N := some 15) #[tt_,tt_,ff_,ff_,ff_,ff_,ff_,ff_,ff_] rfl rfl (by kernel_rfl) (by decide) (fun K hK => ?_)
 refine goes_ Try.func44 (by kernel_rfl) rfl #[.int .u32 (y : Int)] (by rfl) rfl rfl (by (try simp only [List.map_toArray, List.map_cons, List.map_nil]); rfl) ?_
 with_reducible refine (IsNaN_calls y HY.out _).mono ?_
 rw [c0]
 rintro e w5 ⟨rfl, hb⟩
 refine ⟨_, rfl, ?_⟩
 have B_5 := Aside0.mk (below_step B_4.out hb)
 have F_5 := Aside0.mk (blk_below F_4.out hb)
 have Y_5 := Aside0.mk (blk_below Y_4.out hb)
 have R_5 := Aside0.mk (blk_below R_4.out hb)
 clear F_4 Y_4 R_4
 clear hb
 refine hK.out _ _ ⟨(blk_cell F_5.out 0).trans rfl, (blk_cell Y_5.out 0).trans rfl⟩ (fun hHeld => ?_)
 clear hK K
 refine norm_ (a' := ?_) ?_ ?_
 rotate_left
 ·show Act.put _ (some 15) _ = _
  simp only [Act.put, List.setIfInBounds_toArray, List.set_cons_zero, List.set_cons_succ, i64_w, i32_w]
  rfl
 refine pure_ (i := 2) (N := some 16) (v := ?_) (a' := ?_) #[tt_,tt_,tt_,ff_,ff_,ff_,ff_,ff_,ff_] rfl rfl (by kernel_rfl) (fun _ _ _ h => h) (Or.inl ⟨by rfl, ?_⟩) ?_ ?_
 rotate_left
 ·intro w'
  go_simp
  with_reducible rfl
 rotate_left
 ·simp only [Act.put, List.setIfInBounds_toArray, List.set_cons_zero, List.set_cons_succ, i64_w, i32_w]
  rfl
 refine pure_ (i := 4) (N := some 18) (v := ?_) (a' := ?_) #[tt_,tt_,tt_,ff_,tt_,ff_,ff_,ff_,ff_] rfl rfl (by kernel_rfl) (fun _ _ _ h => h) (Or.inl ⟨by rfl, ?_⟩) ?_ ?_
 rotate_left
 ·intro w'
  go_simp
  with_reducible rfl
 rotate_left
 ·simp only [Act.put, List.setIfInBounds_toArray, List.set_cons_zero, List.set_cons_succ, i64_w, i32_w]
  rfl
 refine take_ (i := 3) (N := some 17) (v := ?_) (a' := ?_) #[tt_,tt_,tt_,tt_,tt_,ff_,ff_,ff_,ff_] rfl rfl (by kernel_rfl) (fun _ _ _ h => h) (Or.inl ⟨by rfl, ?_⟩) hHeld ?_ ?_
 rotate_left
 ·rintro w' ⟨s0, s1⟩
  go_simp
  with_reducible rfl
 rotate_left
 ·simp only [Act.put, List.setIfInBounds_toArray, List.set_cons_zero, List.set_cons_succ, i64_w, i32_w]
  rfl
 refine take_ (i := 6) (N := some 20) (v := ?_) (a' := ?_) #[tt_,tt_,tt_,tt_,tt_,ff_,tt_,ff_,ff_] rfl rfl (by kernel_rfl) (fun _ _ _ h => h) (Or.inl ⟨by rfl, ?_⟩) hHeld ?_ ?_
 rotate_left
 ·rintro w' ⟨s0, s1⟩
  go_simp
  with_reducible rfl
 rotate_left
 ·simp only [Act.put, List.setIfInBounds_toArray, List.set_cons_zero, List.set_cons_succ, i64_w, i32_w]
  rfl
 refine one_ (i := 5) (N := some 19) #[tt_,tt_,tt_,tt_,tt_,tt_,tt_,ff_,ff_] rfl rfl (by kernel_rfl) (by decide) (fun K hK => ?_)
 refine goesM_ (f := 22) (.iface 48 (.pointer (some ⟨g, 0, none⟩))) #[.int .u32 ((hi : Nat) : Int)] _ (inv_h g (hi) _) (by rfl) rfl rfl (by rfl) (by (try simp only [List.map_toArray, List.map_cons, List.map_nil]); rfl) ?_
 refine (HA.out _ _ HHI.out B_5.out).mono ?_
 rintro e w6 ⟨rfl, hb⟩
 refine ⟨_, rfl, ?_⟩
 have B_6 := Aside0.mk (below_step B_5.out hb)
 have F_6 := Aside0.mk (blk_below F_5.out hb)
 have Y_6 := Aside0.mk (blk_below Y_5.out hb)
 have R_6 := Aside0.mk (blk_below R_5.out hb)
 clear F_5 Y_5 R_5
 clear hb
 refine hK.out _ _ ⟨(blk_cell F_6.out 0).trans rfl, (blk_cell Y_6.out 0).trans rfl⟩ (fun hHeld => ?_)
 clear hK K
 refine norm_ (a' := ?_) ?_ ?_
 rotate_left
 ·show Act.put _ (some 19) _ = _
  simp only [Act.put, List.setIfInBounds_toArray, List.set_cons_zero, List.set_cons_succ, i64_w, i32_w]
  rfl
 refine one_ (i := 7) (N := some 21) #[tt_,tt_,tt_,tt_,tt_,tt_,tt_,tt_,ff_] rfl rfl (by kernel_rfl) (by decide) (fun K hK => ?_)
 refine goes_ Try.func45 (by kernel_rfl) rfl #[.int .u32 ((F hi : Nat) : Int), .int .u32 (y : Int)] (by rfl) rfl rfl (by (try simp only [List.map_toArray, List.map_cons, List.map_nil]); rfl) ?_
 with_reducible refine (Less_calls _ _ HFH.out HY.out _).mono ?_
 rw [c1]
 rintro e _ ⟨rfl, rfl⟩
 refine ⟨_, rfl, ?_⟩
 refine hK.out _ _ ⟨(blk_cell F_6.out 0).trans rfl, (blk_cell Y_6.out 0).trans rfl⟩ (fun hHeld => ?_)
 clear hK K
 refine norm_ (a' := ?_) ?_ ?_
 rotate_left
 ·show Act.put _ (some 21) _ = _
  simp only [Act.put, List.setIfInBounds_toArray, List.set_cons_zero, List.set_cons_succ, i64_w, i32_w]
  rfl
 refine pure_ (i := 8) (N := some 22) (v := ?_) (a' := ?_) #[tt_,tt_,tt_,tt_,tt_,tt_,tt_,tt_,tt_] rfl rfl (by kernel_rfl) (fun _ _ _ h => h) (Or.inl ⟨by rfl, ?_⟩) ?_ ?_
 rotate_left
 ·intro w'
  go_simp
  with_reducible rfl
 rotate_left
 ·simp only [Act.put, List.setIfInBounds_toArray, List.set_cons_zero, List.set_cons_succ, i64_w, i32_w]
  rfl
 refine done_ (by kernel_rfl) ?_

 go_wp2_with (first | (go_at_call 55; (with_reducible refine (Key_calls lo HLO.out _).mono ?_); rw [HKA.out]; rintro e w7 ⟨rfl, hd⟩; have hb := hd.below; clear hd; have B_7 := Aside0.mk (below_step B_6.out hb); have F_7 := Aside0.mk (blk_below F_6.out hb); have Y_7 := Aside0.mk (blk_below Y_6.out hb); have R_7 := Aside0.mk (blk_below R_6.out hb); clear F_6 Y_6 R_6; clear hb) | (go_at_call 55; (with_reducible refine (Key_calls hi HHI.out _).mono ?_); rintro e w8 ⟨rfl, hd⟩; have hb := hd.below; clear hd; have B_8 := Aside0.mk (below_step B_7.out hb); have F_8 := Aside0.mk (blk_below F_7.out hb); have Y_8 := Aside0.mk (blk_below Y_7.out hb); have R_8 := Aside0.mk (blk_below R_7.out hb); clear F_7 Y_7 R_7; clear hb) | ((with_reducible refine gate_dst (N := 10) rfl ?_); refine box_event ?hg (N := 10) ?hd (cs := #[.int .i64 0]) (t := 3) ?hr ?_; (case hd => rfl); (case hg => rfl); (case hr => first | (go_simp; done) | (go_simp; rfl)); intro ga hg_ w9 hm_ hb_; have NEFA := Aside0.mk (show bf ≠ ga by rw [hg_]; have := blk_lt F_8.out; omega); have NEYA := Aside0.mk (show bq ≠ ga by rw [hg_]; have := blk_lt Y_8.out; omega); have NERA := Aside0.mk (show gr ≠ ga by rw [hg_]; have := blk_lt R_8.out; omega); have GA := Aside0.mk (show w.heap.size ≤ ga by rw [hg_]; exact B_8.out.size); have B_9 := Aside0.mk (below_step B_8.out hb_); have F_9 := Aside0.mk (blk_below F_8.out hb_); have Y_9 := Aside0.mk (blk_below Y_8.out hb_); have R_9 := Aside0.mk (blk_below R_8.out hb_); clear F_8 Y_8 R_8; have A_9 := Aside0.mk (hm_); have cA0 := (blk_cell A_9.out 0).trans rfl; clear hm_ hb_ hg_) | ((with_reducible refine gate_store (p := 10) rfl ?_); refine storec_event rfl rfl rfl ga 0 (.int .i64 (a : Int)) _ _ rfl rfl rfl A_9.out size3 (by simp) rfl ?_; intro w10 hm_ hst_ hbl_; clear cA0; have B_10 := Aside0.mk (B_9.out.trans (hbl_ _ GA.out)); have F_10 := Aside0.mk ((hst_ bf NEFA.out).trans F_9.out); have Y_10 := Aside0.mk ((hst_ bq NEYA.out).trans Y_9.out); have R_10 := Aside0.mk ((hst_ gr NERA.out).trans R_9.out); have A_10 := Aside0.mk (hm_); clear F_9 Y_9 R_9 A_9 hm_ hst_ hbl_; have cA0 := (blk_cell A_10.out 0).trans rfl) | (go_at_call 46; have hS := Search_calls 56 #[.pointer (some ⟨bf, 0, none⟩), .pointer (some ⟨ga, 0, none⟩), .pointer (some ⟨bq, 0, none⟩)] d (fun i => !lt (F (fk (a + i))) y) w10 eg.out HD.out (fun W i hi hb => closure56h_calls bf ga bq g a y i F W HY.out HF.out (HAD.out i hi) (fun W2 x hx h2 => HA.out W2 x hx ((below_step B_10.out hb).trans (h2.mono (below_step B_10.out hb).size))) ((blk_cell (blk_below F_10.out hb) 0).trans rfl) ((blk_cell (blk_below A_10.out hb) 0).trans rfl) ((blk_cell (blk_below Y_10.out hb) 0).trans rfl)); refine hS.mono ?_; clear hS; rintro e w11 ⟨r2, rfl, hb, hs⟩; obtain rfl : r2 = n := HU.out _ hs; clear hs; clear cA0; have B_11 := Aside0.mk (below_step B_10.out hb); have F_11 := Aside0.mk (blk_below F_10.out hb); have Y_11 := Aside0.mk (blk_below Y_10.out hb); have R_11 := Aside0.mk (blk_below R_10.out hb); have A_11 := Aside0.mk (blk_below A_10.out hb); clear F_10 Y_10 R_10 A_10; have cA0 := (blk_cell A_11.out 0).trans rfl; clear hb) | (go_at_call 57; (with_reducible refine (FromKey_calls q HQ.out _).mono ?_); rintro e w12 ⟨rfl, hd⟩; have hb := hd.below; clear hd; clear cA0; have B_12 := Aside0.mk (below_step B_11.out hb); have F_12 := Aside0.mk (blk_below F_11.out hb); have Y_12 := Aside0.mk (blk_below Y_11.out hb); have R_12 := Aside0.mk (blk_below R_11.out hb); have A_12 := Aside0.mk (blk_below A_11.out hb); clear F_11 Y_11 R_11 A_11; have cA0 := (blk_cell A_12.out 0).trans rfl; clear hb) | ((with_reducible refine gate_dst (N := 13) rfl ?_); refine box_event ?hg (N := 13) ?hd (cs := #[.int .u32 0, .int .u32 0, .bool false]) (t := 32) ?hr ?_; (case hd => rfl); (case hg => rfl); (case hr => first | (go_simp; done) | (go_simp; rfl)); intro gp hg_ w13 hm_ hb_; have NEFP := Aside0.mk (show bf ≠ gp by rw [hg_]; have := blk_lt F_12.out; omega); have NEYP := Aside0.mk (show bq ≠ gp by rw [hg_]; have := blk_lt Y_12.out; omega); have NERP := Aside0.mk (show gr ≠ gp by rw [hg_]; have := blk_lt R_12.out; omega); have NEAP := Aside0.mk (show ga ≠ gp by rw [hg_]; have := blk_lt A_12.out; omega); have GP := Aside0.mk (show w.heap.size ≤ gp by rw [hg_]; exact B_12.out.size); clear cA0; have B_13 := Aside0.mk (below_step B_12.out hb_); have F_13 := Aside0.mk (blk_below F_12.out hb_); have Y_13 := Aside0.mk (blk_below Y_12.out hb_); have R_13 := Aside0.mk (blk_below R_12.out hb_); have A_13 := Aside0.mk (blk_below A_12.out hb_); clear F_12 Y_12 R_12 A_12; have P_13 := Aside0.mk (hm_); have cA0 := (blk_cell A_13.out 0).trans rfl; have cP0 := (blk_cell P_13.out 0).trans rfl; have cP1 := (blk_cell P_13.out 1).trans rfl; have cP2 := (blk_cell P_13.out 2).trans rfl; clear hm_ hb_ hg_) | ((with_reducible refine gate_store (p := 13) rfl ?_); refine store_event rfl rfl rfl gp #[.int .u32 ((fk q : Nat) : Int), .int .u32 0, .bool false] _ 32 rfl rfl P_13.out size32 rfl (by simp [Value.oneCell']) ?_; intro w14 hm_ hst_ hbl_; clear cA0 cP0 cP1 cP2; have B_14 := Aside0.mk (B_13.out.trans (hbl_ _ GP.out)); have F_14 := Aside0.mk ((hst_ bf NEFP.out).trans F_13.out); have Y_14 := Aside0.mk ((hst_ bq NEYP.out).trans Y_13.out); have R_14 := Aside0.mk ((hst_ gr NERP.out).trans R_13.out); have A_14 := Aside0.mk ((hst_ ga NEAP.out).trans A_13.out); have P_14 := Aside0.mk (hm_); clear F_13 Y_13 R_13 A_13 P_13 hm_ hst_ hbl_; have cA0 := (blk_cell A_14.out 0).trans rfl; have cP0 := (blk_cell P_14.out 0).trans rfl; have cP1 := (blk_cell P_14.out 1).trans rfl; have cP2 := (blk_cell P_14.out 2).trans rfl) | ((with_reducible refine gate_dst (N := 52) rfl ?_); refine Kd.event_run rfl (v := .agg #[.int .u32 ((fk q : Nat) : Int), .int .u32 0, .bool false]) (w1 := w14) ?hr ?_; (case hr => exact load32 (by rfl) rfl (P_14.out))) | ((with_reducible refine gate_store (p := 8) rfl ?_); refine store_event rfl rfl rfl gr #[.int .u32 ((fk q : Nat) : Int), .int .u32 0, .bool false] _ 32 rfl rfl R_14.out size32 rfl (by simp [Value.oneCell']) ?_; intro w15 hm_ hst_ hbl_; clear cA0 cP0 cP1 cP2; have B_15 := Aside0.mk (B_14.out.trans (hbl_ _ GR.out)); have F_15 := Aside0.mk ((hst_ bf NEFR.out).trans F_14.out); have Y_15 := Aside0.mk ((hst_ bq NEYR.out).trans Y_14.out); have A_15 := Aside0.mk ((hst_ ga NERA.out.symm).trans A_14.out); have P_15 := Aside0.mk ((hst_ gp NERP.out.symm).trans P_14.out); have R_15 := Aside0.mk (hm_); clear F_14 Y_14 R_14 A_14 P_14 hm_ hst_ hbl_; have cA0 := (blk_cell A_15.out 0).trans rfl; have cP0 := (blk_cell P_15.out 0).trans rfl; have cP1 := (blk_cell P_15.out 1).trans rfl; have cP2 := (blk_cell P_15.out 2).trans rfl))
 refine bodyPost_ret (results_ct rfl _ _ gr 32 #[.int .u32 ((fk q : Nat) : Int), .int .u32 0, .bool false] (0, 0) _ rfl R_15.out Try.underlying32 rfl (by kernel_rfl)) rfl ?_
 exact ⟨rfl, B_15.out⟩
set_option maxHeartbeats 4000000 in
theorem first_posh (g lo hi y : Nat) (F : Nat → Nat) (w : World) (hlo : lo < 4294967296) (hhi : hi < 4294967296) (hy : y < 4294967296) (hF : ∀ x, x < 4294967296 → F x < 4294967296) (hA : ∀ (W : World) (x : Nat), x < 4294967296 → Below w.heap.size w W → Calls Try.prog 22 #[.pointer (some ⟨g, 0, none⟩), .int .u32 (x : Int)] W fun e w' => e = .returned (.int .u32 ((F x : Nat) : Int)) ∧ Below W.heap.size W w') (c0 : isnan y = false) (c1 : lt (F hi) y = false) (hk : kf lo ≤ kf hi) (n : Nat) (h0 : n ≠ 0) (hnd : n ≤ kf hi - kf lo) (hu : ∀ r, Srch (fun i => !lt (F (fk (kf lo + i))) y) (kf hi - kf lo) r → r = n) :
    Calls Try.prog 41 #[.iface 48 (.pointer (some ⟨g, 0, none⟩)), .int .u32 (lo : Int), .int .u32 (hi : Int), .int .u32 (y : Int)] w fun e w' => e = .returned (.tuple #[.agg #[.int .u32 ((fk (kf lo + n) : Nat) : Int), .int .u32 ((fk (kf lo + n - 1) : Nat) : Int), .bool true], .int .i64 0]) ∧ Below w.heap.size w w' := by
 have HA := Aside0.mk hA
 have HY := Aside0.mk hy
 have HLO := Aside0.mk hlo
 have HHI := Aside0.mk hhi
 have HF := Aside0.mk hF
 have HFH : Aside0 (F hi < 4294967296) := ⟨hF _ hhi⟩
 have hw := kf_word hhi
 have hwl := kf_word hlo
 obtain ⟨a, ha⟩ : ∃ a, kf lo = a := ⟨_, rfl⟩
 obtain ⟨d, hd⟩ : ∃ d, kf hi = a + d := ⟨kf hi - kf lo, by omega⟩
 obtain ⟨q, hq⟩ : ∃ q, a + n = q := ⟨_, rfl⟩
 rw [ha] at hu hk hwl
 have HKA := Aside0.mk ha
 have hn : n ≤ d := by omega
 have hu' : ∀ r, Srch (fun i => !lt (F (fk (a + i))) y) d r → r = n := fun r h => hu r (by rw [hd, Nat.add_sub_cancel_left]; exact h)
 have HU := Aside0.mk hu'
 have HD : Aside0 (d < 4611686018427387904) := ⟨by omega⟩
 have HAD : Aside0 (∀ i, i < d → a + i < 4294967296) := ⟨fun i hi => by omega⟩
 have HQ : Aside0 (q < 4294967296) := ⟨by omega⟩
 have wd : IntKind.i64.wrap ((kf hi : Int) - (a : Int)) = (d : Int) := by rw [show IntKind.i64.wrap ((kf hi : Int) - (a : Int)) = wrap64 ((kf hi : Int) - (a : Int)) from i64_w _, w64 (by omega) (by omega)]; omega
 have wq : IntKind.i64.wrap ((a : Int) + (n : Int)) = (q : Int) := by rw [show IntKind.i64.wrap ((a : Int) + (n : Int)) = wrap64 ((a : Int) + (n : Int)) from i64_w _, w64 (by omega) (by omega)]; omega
 have wq2 : IntKind.u32.wrap (q : Int) = (q : Int) := by rw [IntKind.wrap_u32]; omega
 have wa : IntKind.i64.wrap (a : Int) = (a : Int) := by rw [show IntKind.i64.wrap (a : Int) = wrap64 (a : Int) from i64_w _, w64 (by omega) (by omega)]
 have wh : IntKind.i64.wrap ((kf hi : Nat) : Int) = ((kf hi : Nat) : Int) := by rw [show IntKind.i64.wrap ((kf hi : Nat) : Int) = wrap64 ((kf hi : Nat) : Int) from i64_w _, w64 (by omega) (by omega)]
 have eg : Aside0 (∀ args w, (callFunc 56 args).run Try.prog w = .ok (.enter 56 args) w) := ⟨enters_of Try.func56 (by kernel_rfl) rfl⟩
 have tg : decide ((n : Int) > 0) = true := decide_eq_true (by omega)
 have tg2 : (0 < n) = True := eq_true (by omega)
 have HFQ : Aside0 (fk q < 4294967296) := ⟨fk_word HQ.out⟩
 have HPV : Aside0 (kf (fk q) = q) := ⟨kf_fk' HQ.out⟩
 have HPN : Aside0 (¬ (q = 0)) := ⟨by omega⟩
 rw [ha]
 rw [hq]
 clear hnd hlo hhi hy hF hA hu hk hw hwl ha hd hq hn hu' h0
 have B_0 : Aside0 (Below w.heap.size w w) := ⟨Below.refl _ _⟩
 go_enter Try.func41, Try.ntmps41
 go_wp2_with (first | ((with_reducible refine gate_dst (N := 4) rfl ?_); refine box_event ?hg (N := 4) ?hd (cs := #[.iface 48 (.pointer (some ⟨g, 0, none⟩))]) (t := 86) ?hr ?_; (case hd => rfl); (case hg => rfl); (case hr => first | (go_simp; done) | (go_simp; rfl)); intro bf hg_ w1 hm_ hb_; have GF := Aside0.mk (show w.heap.size ≤ bf by rw [hg_]; exact B_0.out.size); have B_1 := Aside0.mk (below_step B_0.out hb_); have F_1 := Aside0.mk (hm_); clear hm_ hb_ hg_) | ((with_reducible refine gate_dst (N := 7) rfl ?_); refine box_event ?hg (N := 7) ?hd (cs := #[.int .u32 (y : Int)]) (t := 30) ?hr ?_; (case hd => rfl); (case hg => rfl); (case hr => first | (go_simp; done) | (go_simp; rfl)); intro bq hg_ w2 hm_ hb_; have NEFY := Aside0.mk (show bf ≠ bq by rw [hg_]; have := blk_lt F_1.out; omega); have GY := Aside0.mk (show w.heap.size ≤ bq by rw [hg_]; exact B_1.out.size); have B_2 := Aside0.mk (below_step B_1.out hb_); have F_2 := Aside0.mk (blk_below F_1.out hb_); clear F_1; have Y_2 := Aside0.mk (hm_); clear hm_ hb_ hg_) | ((with_reducible refine gate_dst (N := 8) rfl ?_); refine box_event ?hg (N := 8) ?hd (cs := #[.int .u32 0, .int .u32 0, .bool false]) (t := 32) ?hr ?_; (case hd => rfl); (case hg => rfl); (case hr => first | (go_simp; done) | (go_simp; rfl)); intro gr hg_ w3 hm_ hb_; have NEFR := Aside0.mk (show bf ≠ gr by rw [hg_]; have := blk_lt F_2.out; omega); have NEYR := Aside0.mk (show bq ≠ gr by rw [hg_]; have := blk_lt Y_2.out; omega); have GR := Aside0.mk (show w.heap.size ≤ gr by rw [hg_]; exact B_2.out.size); have B_3 := Aside0.mk (below_step B_2.out hb_); have F_3 := Aside0.mk (blk_below F_2.out hb_); have Y_3 := Aside0.mk (blk_below Y_2.out hb_); clear F_2 Y_2; have R_3 := Aside0.mk (hm_); clear hm_ hb_ hg_))
 have B_4 : Aside0 (Below w.heap.size w w3.drew) := ⟨below_drew B_3.out⟩
 have F_4 := Aside0.mk (blk_drew F_3.out)
 have Y_4 := Aside0.mk (blk_drew Y_3.out)
 have R_4 := Aside0.mk (blk_drew R_3.out)
 clear B_3 F_3 Y_3 R_3
 refine start_ (n := 9) (S := fun w' => w'.cell? ⟨bf, 0, none⟩ = some (.iface 48 (.pointer (some ⟨g, 0, none⟩))) ∧ w'.cell? ⟨bq, 0, none⟩ = some (.int .u32 (y : Int))) (ds := []) #[ff_,ff_,ff_,ff_,ff_,ff_,ff_,ff_,ff_] (by kernel_rfl) rfl rfl ⟨(blk_cell F_4.out 0).trans rfl, (blk_cell Y_4.out 0).trans rfl⟩ (fun hHeld => ?_)
 generalize w3.drew = w4 at *
 refine take_ (i := 0) (N := some 14) (v := ?_) (a' := ?_) #[tt_,ff_,ff_,ff_,ff_,ff_,ff_,ff_,ff_] rfl rfl (by kernel_rfl) (fun _ _ _ h => h) (Or.inl ⟨by rfl, ?_⟩) hHeld ?_ ?_
 rotate_left
 ·rintro w' ⟨s0, s1⟩
  go_simp
  with_reducible rfl
 rotate_left
 ·simp only [Act.put, List.setIfInBounds_toArray, List.set_cons_zero, List.set_cons_succ, i64_w, i32_w]
  rfl
 refine one_ (i := 1) (N := some 15) #[tt_,tt_,ff_,ff_,ff_,ff_,ff_,ff_,ff_] rfl rfl (by kernel_rfl) (by decide) (fun K hK => ?_)
 refine goes_ Try.func44 (by kernel_rfl) rfl #[.int .u32 (y : Int)] (by rfl) rfl rfl (by (try simp only [List.map_toArray, List.map_cons, List.map_nil]); rfl) ?_
 with_reducible refine (IsNaN_calls y HY.out _).mono ?_
 rw [c0]
 rintro e w5 ⟨rfl, hb⟩
 refine ⟨_, rfl, ?_⟩
 have B_5 := Aside0.mk (below_step B_4.out hb)
 have F_5 := Aside0.mk (blk_below F_4.out hb)
 have Y_5 := Aside0.mk (blk_below Y_4.out hb)
 have R_5 := Aside0.mk (blk_below R_4.out hb)
 clear F_4 Y_4 R_4
 clear hb
 refine hK.out _ _ ⟨(blk_cell F_5.out 0).trans rfl, (blk_cell Y_5.out 0).trans rfl⟩ (fun hHeld => ?_)
 clear hK K
 refine norm_ (a' := ?_) ?_ ?_
 rotate_left
 ·show Act.put _ (some 15) _ = _
  simp only [Act.put, List.setIfInBounds_toArray, List.set_cons_zero, List.set_cons_succ, i64_w, i32_w]
  rfl
 refine pure_ (i := 2) (N := some 16) (v := ?_) (a' := ?_) #[tt_,tt_,tt_,ff_,ff_,ff_,ff_,ff_,ff_] rfl rfl (by kernel_rfl) (fun _ _ _ h => h) (Or.inl ⟨by rfl, ?_⟩) ?_ ?_
 rotate_left
 ·intro w'
  go_simp
  with_reducible rfl
 rotate_left
 ·simp only [Act.put, List.setIfInBounds_toArray, List.set_cons_zero, List.set_cons_succ, i64_w, i32_w]
  rfl
 refine pure_ (i := 4) (N := some 18) (v := ?_) (a' := ?_) #[tt_,tt_,tt_,ff_,tt_,ff_,ff_,ff_,ff_] rfl rfl (by kernel_rfl) (fun _ _ _ h => h) (Or.inl ⟨by rfl, ?_⟩) ?_ ?_
 rotate_left
 ·intro w'
  go_simp
  with_reducible rfl
 rotate_left
 ·simp only [Act.put, List.setIfInBounds_toArray, List.set_cons_zero, List.set_cons_succ, i64_w, i32_w]
  rfl
 refine take_ (i := 3) (N := some 17) (v := ?_) (a' := ?_) #[tt_,tt_,tt_,tt_,tt_,ff_,ff_,ff_,ff_] rfl rfl (by kernel_rfl) (fun _ _ _ h => h) (Or.inl ⟨by rfl, ?_⟩) hHeld ?_ ?_
 rotate_left
 ·rintro w' ⟨s0, s1⟩
  go_simp
  with_reducible rfl
 rotate_left
 ·simp only [Act.put, List.setIfInBounds_toArray, List.set_cons_zero, List.set_cons_succ, i64_w, i32_w]
  rfl
 refine take_ (i := 6) (N := some 20) (v := ?_) (a' := ?_) #[tt_,tt_,tt_,tt_,tt_,ff_,tt_,ff_,ff_] rfl rfl (by kernel_rfl) (fun _ _ _ h => h) (Or.inl ⟨by rfl, ?_⟩) hHeld ?_ ?_
 rotate_left
 ·rintro w' ⟨s0, s1⟩
  go_simp
  with_reducible rfl
 rotate_left
 ·simp only [Act.put, List.setIfInBounds_toArray, List.set_cons_zero, List.set_cons_succ, i64_w, i32_w]
  rfl
 refine one_ (i := 5) (N := some 19) #[tt_,tt_,tt_,tt_,tt_,tt_,tt_,ff_,ff_] rfl rfl (by kernel_rfl) (by decide) (fun K hK => ?_)
 refine goesM_ (f := 22) (.iface 48 (.pointer (some ⟨g, 0, none⟩))) #[.int .u32 ((hi : Nat) : Int)] _ (inv_h g (hi) _) (by rfl) rfl rfl (by rfl) (by (try simp only [List.map_toArray, List.map_cons, List.map_nil]); rfl) ?_
 refine (HA.out _ _ HHI.out B_5.out).mono ?_
 rintro e w6 ⟨rfl, hb⟩
 refine ⟨_, rfl, ?_⟩
 have B_6 := Aside0.mk (below_step B_5.out hb)
 have F_6 := Aside0.mk (blk_below F_5.out hb)
 have Y_6 := Aside0.mk (blk_below Y_5.out hb)
 have R_6 := Aside0.mk (blk_below R_5.out hb)
 clear F_5 Y_5 R_5
 clear hb
 refine hK.out _ _ ⟨(blk_cell F_6.out 0).trans rfl, (blk_cell Y_6.out 0).trans rfl⟩ (fun hHeld => ?_)
 clear hK K
 refine norm_ (a' := ?_) ?_ ?_
 rotate_left
 ·show Act.put _ (some 19) _ = _
  simp only [Act.put, List.setIfInBounds_toArray, List.set_cons_zero, List.set_cons_succ, i64_w, i32_w]
  rfl
 refine one_ (i := 7) (N := some 21) #[tt_,tt_,tt_,tt_,tt_,tt_,tt_,tt_,ff_] rfl rfl (by kernel_rfl) (by decide) (fun K hK => ?_)
 refine goes_ Try.func45 (by kernel_rfl) rfl #[.int .u32 ((F hi : Nat) : Int), .int .u32 (y : Int)] (by rfl) rfl rfl (by (try simp only [List.map_toArray, List.map_cons, List.map_nil]); rfl) ?_
 with_reducible refine (Less_calls _ _ HFH.out HY.out _).mono ?_
 rw [c1]
 rintro e _ ⟨rfl, rfl⟩
 refine ⟨_, rfl, ?_⟩
 refine hK.out _ _ ⟨(blk_cell F_6.out 0).trans rfl, (blk_cell Y_6.out 0).trans rfl⟩ (fun hHeld => ?_)
 clear hK K
 refine norm_ (a' := ?_) ?_ ?_
 rotate_left
 ·show Act.put _ (some 21) _ = _
  simp only [Act.put, List.setIfInBounds_toArray, List.set_cons_zero, List.set_cons_succ, i64_w, i32_w]
  rfl
 refine pure_ (i := 8) (N := some 22) (v := ?_) (a' := ?_) #[tt_,tt_,tt_,tt_,tt_,tt_,tt_,tt_,tt_] rfl rfl (by kernel_rfl) (fun _ _ _ h => h) (Or.inl ⟨by rfl, ?_⟩) ?_ ?_
 rotate_left
 ·intro w'
  go_simp
  with_reducible rfl
 rotate_left
 ·simp only [Act.put, List.setIfInBounds_toArray, List.set_cons_zero, List.set_cons_succ, i64_w, i32_w]
  rfl
 refine done_ (by kernel_rfl) ?_

 go_wp2_with (first | (go_at_call 55; (with_reducible refine (Key_calls lo HLO.out _).mono ?_); rw [HKA.out]; rintro e w7 ⟨rfl, hd⟩; have hb := hd.below; clear hd; have B_7 := Aside0.mk (below_step B_6.out hb); have F_7 := Aside0.mk (blk_below F_6.out hb); have Y_7 := Aside0.mk (blk_below Y_6.out hb); have R_7 := Aside0.mk (blk_below R_6.out hb); clear F_6 Y_6 R_6; clear hb) | (go_at_call 55; (with_reducible refine (Key_calls hi HHI.out _).mono ?_); rintro e w8 ⟨rfl, hd⟩; have hb := hd.below; clear hd; have B_8 := Aside0.mk (below_step B_7.out hb); have F_8 := Aside0.mk (blk_below F_7.out hb); have Y_8 := Aside0.mk (blk_below Y_7.out hb); have R_8 := Aside0.mk (blk_below R_7.out hb); clear F_7 Y_7 R_7; clear hb) | ((with_reducible refine gate_dst (N := 10) rfl ?_); refine box_event ?hg (N := 10) ?hd (cs := #[.int .i64 0]) (t := 3) ?hr ?_; (case hd => rfl); (case hg => rfl); (case hr => first | (go_simp; done) | (go_simp; rfl)); intro ga hg_ w9 hm_ hb_; have NEFA := Aside0.mk (show bf ≠ ga by rw [hg_]; have := blk_lt F_8.out; omega); have NEYA := Aside0.mk (show bq ≠ ga by rw [hg_]; have := blk_lt Y_8.out; omega); have NERA := Aside0.mk (show gr ≠ ga by rw [hg_]; have := blk_lt R_8.out; omega); have GA := Aside0.mk (show w.heap.size ≤ ga by rw [hg_]; exact B_8.out.size); have B_9 := Aside0.mk (below_step B_8.out hb_); have F_9 := Aside0.mk (blk_below F_8.out hb_); have Y_9 := Aside0.mk (blk_below Y_8.out hb_); have R_9 := Aside0.mk (blk_below R_8.out hb_); clear F_8 Y_8 R_8; have A_9 := Aside0.mk (hm_); have cA0 := (blk_cell A_9.out 0).trans rfl; clear hm_ hb_ hg_) | ((with_reducible refine gate_store (p := 10) rfl ?_); refine storec_event rfl rfl rfl ga 0 (.int .i64 (a : Int)) _ _ rfl rfl rfl A_9.out size3 (by simp) rfl ?_; intro w10 hm_ hst_ hbl_; clear cA0; have B_10 := Aside0.mk (B_9.out.trans (hbl_ _ GA.out)); have F_10 := Aside0.mk ((hst_ bf NEFA.out).trans F_9.out); have Y_10 := Aside0.mk ((hst_ bq NEYA.out).trans Y_9.out); have R_10 := Aside0.mk ((hst_ gr NERA.out).trans R_9.out); have A_10 := Aside0.mk (hm_); clear F_9 Y_9 R_9 A_9 hm_ hst_ hbl_; have cA0 := (blk_cell A_10.out 0).trans rfl) | (go_at_call 46; have hS := Search_calls 56 #[.pointer (some ⟨bf, 0, none⟩), .pointer (some ⟨ga, 0, none⟩), .pointer (some ⟨bq, 0, none⟩)] d (fun i => !lt (F (fk (a + i))) y) w10 eg.out HD.out (fun W i hi hb => closure56h_calls bf ga bq g a y i F W HY.out HF.out (HAD.out i hi) (fun W2 x hx h2 => HA.out W2 x hx ((below_step B_10.out hb).trans (h2.mono (below_step B_10.out hb).size))) ((blk_cell (blk_below F_10.out hb) 0).trans rfl) ((blk_cell (blk_below A_10.out hb) 0).trans rfl) ((blk_cell (blk_below Y_10.out hb) 0).trans rfl)); refine hS.mono ?_; clear hS; rintro e w11 ⟨r2, rfl, hb, hs⟩; obtain rfl : r2 = n := HU.out _ hs; clear hs; clear cA0; have B_11 := Aside0.mk (below_step B_10.out hb); have F_11 := Aside0.mk (blk_below F_10.out hb); have Y_11 := Aside0.mk (blk_below Y_10.out hb); have R_11 := Aside0.mk (blk_below R_10.out hb); have A_11 := Aside0.mk (blk_below A_10.out hb); clear F_10 Y_10 R_10 A_10; have cA0 := (blk_cell A_11.out 0).trans rfl; clear hb) | (go_at_call 57; (with_reducible refine (FromKey_calls q HQ.out _).mono ?_); rintro e w12 ⟨rfl, hd⟩; have hb := hd.below; clear hd; clear cA0; have B_12 := Aside0.mk (below_step B_11.out hb); have F_12 := Aside0.mk (blk_below F_11.out hb); have Y_12 := Aside0.mk (blk_below Y_11.out hb); have R_12 := Aside0.mk (blk_below R_11.out hb); have A_12 := Aside0.mk (blk_below A_11.out hb); clear F_11 Y_11 R_11 A_11; have cA0 := (blk_cell A_12.out 0).trans rfl; clear hb) | ((with_reducible refine gate_dst (N := 13) rfl ?_); refine box_event ?hg (N := 13) ?hd (cs := #[.int .u32 0, .int .u32 0, .bool false]) (t := 32) ?hr ?_; (case hd => rfl); (case hg => rfl); (case hr => first | (go_simp; done) | (go_simp; rfl)); intro gp hg_ w13 hm_ hb_; have NEFP := Aside0.mk (show bf ≠ gp by rw [hg_]; have := blk_lt F_12.out; omega); have NEYP := Aside0.mk (show bq ≠ gp by rw [hg_]; have := blk_lt Y_12.out; omega); have NERP := Aside0.mk (show gr ≠ gp by rw [hg_]; have := blk_lt R_12.out; omega); have NEAP := Aside0.mk (show ga ≠ gp by rw [hg_]; have := blk_lt A_12.out; omega); have GP := Aside0.mk (show w.heap.size ≤ gp by rw [hg_]; exact B_12.out.size); clear cA0; have B_13 := Aside0.mk (below_step B_12.out hb_); have F_13 := Aside0.mk (blk_below F_12.out hb_); have Y_13 := Aside0.mk (blk_below Y_12.out hb_); have R_13 := Aside0.mk (blk_below R_12.out hb_); have A_13 := Aside0.mk (blk_below A_12.out hb_); clear F_12 Y_12 R_12 A_12; have P_13 := Aside0.mk (hm_); have cA0 := (blk_cell A_13.out 0).trans rfl; have cP0 := (blk_cell P_13.out 0).trans rfl; have cP1 := (blk_cell P_13.out 1).trans rfl; have cP2 := (blk_cell P_13.out 2).trans rfl; clear hm_ hb_ hg_) | ((with_reducible refine gate_store (p := 13) rfl ?_); refine store_event rfl rfl rfl gp #[.int .u32 ((fk q : Nat) : Int), .int .u32 0, .bool true] _ 32 rfl rfl P_13.out size32 rfl (by simp [Value.oneCell']) ?_; intro w14 hm_ hst_ hbl_; clear cA0 cP0 cP1 cP2; have B_14 := Aside0.mk (B_13.out.trans (hbl_ _ GP.out)); have F_14 := Aside0.mk ((hst_ bf NEFP.out).trans F_13.out); have Y_14 := Aside0.mk ((hst_ bq NEYP.out).trans Y_13.out); have R_14 := Aside0.mk ((hst_ gr NERP.out).trans R_13.out); have A_14 := Aside0.mk ((hst_ ga NEAP.out).trans A_13.out); have P_14 := Aside0.mk (hm_); clear F_13 Y_13 R_13 A_13 P_13 hm_ hst_ hbl_; have cA0 := (blk_cell A_14.out 0).trans rfl; have cP0 := (blk_cell P_14.out 0).trans rfl; have cP1 := (blk_cell P_14.out 1).trans rfl; have cP2 := (blk_cell P_14.out 2).trans rfl) | (go_at_call 58; (with_reducible refine (Prev_calls (fk q) HFQ.out _).mono ?_); rw [HPV.out, if_neg HPN.out]; rintro e w15 ⟨rfl, hd⟩; have hb := hd.below; clear hd; clear cA0 cP0 cP1 cP2; have B_15 := Aside0.mk (below_step B_14.out hb); have F_15 := Aside0.mk (blk_below F_14.out hb); have Y_15 := Aside0.mk (blk_below Y_14.out hb); have R_15 := Aside0.mk (blk_below R_14.out hb); have A_15 := Aside0.mk (blk_below A_14.out hb); have P_15 := Aside0.mk (blk_below P_14.out hb); clear F_14 Y_14 R_14 A_14 P_14; have cA0 := (blk_cell A_15.out 0).trans rfl; have cP0 := (blk_cell P_15.out 0).trans rfl; have cP1 := (blk_cell P_15.out 1).trans rfl; have cP2 := (blk_cell P_15.out 2).trans rfl; clear hb) | ((with_reducible refine gate_store (p := 51) rfl ?_); refine storec_event rfl rfl rfl gp 1 (.int .u32 ((fk (q - 1) : Nat) : Int)) _ _ rfl rfl rfl P_15.out size30 (by simp) rfl ?_; intro w16 hm_ hst_ hbl_; clear cA0 cP0 cP1 cP2; have B_16 := Aside0.mk (B_15.out.trans (hbl_ _ GP.out)); have F_16 := Aside0.mk ((hst_ bf NEFP.out).trans F_15.out); have Y_16 := Aside0.mk ((hst_ bq NEYP.out).trans Y_15.out); have R_16 := Aside0.mk ((hst_ gr NERP.out).trans R_15.out); have A_16 := Aside0.mk ((hst_ ga NEAP.out).trans A_15.out); have P_16 := Aside0.mk (hm_); clear F_15 Y_15 R_15 A_15 P_15 hm_ hst_ hbl_; have cA0 := (blk_cell A_16.out 0).trans rfl; have cP0 := (blk_cell P_16.out 0).trans rfl; have cP1 := (blk_cell P_16.out 1).trans rfl; have cP2 := (blk_cell P_16.out 2).trans rfl) | ((with_reducible refine gate_dst (N := 52) rfl ?_); refine Kd.event_run rfl (v := .agg #[.int .u32 ((fk q : Nat) : Int), .int .u32 ((fk (q - 1) : Nat) : Int), .bool true]) (w1 := w16) ?hr ?_; (case hr => exact load32 (by rfl) rfl (P_16.out))) | ((with_reducible refine gate_store (p := 8) rfl ?_); refine store_event rfl rfl rfl gr #[.int .u32 ((fk q : Nat) : Int), .int .u32 ((fk (q - 1) : Nat) : Int), .bool true] _ 32 rfl rfl R_16.out size32 rfl (by simp [Value.oneCell']) ?_; intro w17 hm_ hst_ hbl_; clear cA0 cP0 cP1 cP2; have B_17 := Aside0.mk (B_16.out.trans (hbl_ _ GR.out)); have F_17 := Aside0.mk ((hst_ bf NEFR.out).trans F_16.out); have Y_17 := Aside0.mk ((hst_ bq NEYR.out).trans Y_16.out); have A_17 := Aside0.mk ((hst_ ga NERA.out.symm).trans A_16.out); have P_17 := Aside0.mk ((hst_ gp NERP.out.symm).trans P_16.out); have R_17 := Aside0.mk (hm_); clear F_16 Y_16 R_16 A_16 P_16 hm_ hst_ hbl_; have cA0 := (blk_cell A_17.out 0).trans rfl; have cP0 := (blk_cell P_17.out 0).trans rfl; have cP1 := (blk_cell P_17.out 1).trans rfl; have cP2 := (blk_cell P_17.out 2).trans rfl))
 refine bodyPost_ret (results_ct rfl _ _ gr 32 #[.int .u32 ((fk q : Nat) : Int), .int .u32 ((fk (q - 1) : Nat) : Int), .bool true] (0, 0) _ rfl R_17.out Try.underlying32 rfl (by kernel_rfl)) rfl ?_
 exact ⟨rfl, B_17.out⟩
end Go.Proofs.Ytkicfaboibfbpaa.A
end
section
set_option linter.unusedVariables false
set_option linter.unusedSimpArgs false
namespace Go.Proofs.Ytkicfaboibfbpaa.A
open Go.RowKit Go.Proofs.YtkicfaboibfbpaaW.PrintWords Go.Proofs.YtkicfaboibfbpaaW.PrintLast Go.Proofs.YtkicfaboibfbpaaW.PrintMore Go.Proofs.Ytkicfaboibfbpaa.PCurveAts
set_option maxHeartbeats 4000000 in
theorem reachesc_calls (g x y : Nat) (F : Nat → Nat) (w : World) (hx : x < 4294967296) (hy : y < 4294967296) (hF : ∀ x, x < 4294967296 → F x < 4294967296) (hA : ∀ (W : World) (x : Nat), x < 4294967296 → Below w.heap.size w W → Calls Try.prog 17 #[.pointer (some ⟨g, 0, none⟩), .int .u32 (x : Int)] W fun e w' => e = .returned (.int .u32 ((F x : Nat) : Int)) ∧ Below W.heap.size W w') :
    Calls Try.prog 60 #[.iface 26 (.pointer (some ⟨g, 0, none⟩)), .int .u32 (x : Int), .int .u32 (y : Int)] w fun e w' => e = .returned (.bool (rch F x y)) ∧ Below w.heap.size w w' := by
 have HA := Aside0.mk hA
 have HX := Aside0.mk hx
 have HY := Aside0.mk hy
 have HV : Aside0 (F x < 4294967296) := ⟨hF x hx⟩
 have B_0 : Aside0 (Below w.heap.size w w) := ⟨Below.refl _ _⟩
 have hm : ∀ w, (method 213 26 (.pointer (some ⟨g, 0, none⟩)) "At").run Try.prog w = .ok (17, .pointer (some ⟨g, 0, none⟩)) w := fun _ => by kernel_rfl
 have hn : ∀ w, (nilAhead 213 26 (.pointer (some ⟨g, 0, none⟩)) "At").run Try.prog w = .ok (some false) w := fun _ => by kernel_rfl
 clear hA hx hy hF
 unfold rch
 cases c1 : lt y (F x)
 ·rw [Bool.false_or]
  go_enter Try.func60, Try.ntmps60
  go_wp2_with (first | (go_at_call 17; (with_reducible refine (HA.out _ x HX.out (Below.refl _ _)).mono ?_); rintro e w1 ⟨rfl, hb⟩; have B_1 := Aside0.mk (below_step B_0.out hb); clear hb) | (go_at_call 45; with_reducible refine (Less_calls y (F x) HY.out HV.out _).mono ?_; rw [c1]; rintro e _ ⟨rfl, rfl⟩) | (go_at_call 48; with_reducible refine (Equal_calls y (F x) HY.out HV.out _).mono ?_; rintro e _ ⟨rfl, rfl⟩))
  go_ret
  exact ⟨rfl, B_1.out⟩
 ·rw [Bool.true_or]
  go_enter Try.func60, Try.ntmps60
  go_wp2_with (first | (go_at_call 17; (with_reducible refine (HA.out _ x HX.out (Below.refl _ _)).mono ?_); rintro e w1 ⟨rfl, hb⟩; have B_1 := Aside0.mk (below_step B_0.out hb); clear hb) | (go_at_call 45; with_reducible refine (Less_calls y (F x) HY.out HV.out _).mono ?_; rw [c1]; rintro e _ ⟨rfl, rfl⟩))
  go_ret
  exact ⟨rfl, B_1.out⟩
set_option maxHeartbeats 8000000 in
theorem provedc_calls (g lo hi y X B : Nat) (H : Bool) (F : Nat → Nat) (w : World) (hlo : lo < 4294967296) (hhi : hi < 4294967296) (hy : y < 4294967296) (hX : X < 4294967296) (hF : ∀ x, x < 4294967296 → F x < 4294967296) (hA : ∀ (W : World) (x : Nat), x < 4294967296 → Below w.heap.size w W → Calls Try.prog 17 #[.pointer (some ⟨g, 0, none⟩), .int .u32 (x : Int)] W fun e w' => e = .returned (.int .u32 ((F x : Nat) : Int)) ∧ Below W.heap.size W w') :
    Calls Try.prog 42 #[.iface 26 (.pointer (some ⟨g, 0, none⟩)), .int .u32 (lo : Int), .int .u32 (hi : Int), .int .u32 (y : Int), .agg #[.int .u32 (X : Int), .int .u32 (B : Int), .bool H]] w fun e w' => e = .returned (.bool (ckP F lo hi y ⟨X, B, H⟩)) ∧ Below w.heap.size w w' := by
 have HA := Aside0.mk hA
 have HF := Aside0.mk hF
 have HX := Aside0.mk hX
 have HY := Aside0.mk hy
 have HLO := Aside0.mk hlo
 have HHI := Aside0.mk hhi
 unfold ckP
 simp only
 have B_0 : Aside0 (Below w.heap.size w w) := ⟨Below.refl _ _⟩
 clear hA hF hX hy hlo hhi
 cases c0 : isnan y
 ·rw [if_neg (show ¬ (false = true) by decide)]
  by_cases d1 : kf X < kf lo
  ·have c1 := decide_eq_true d1
   rw [if_pos d1]
   clear d1
   go_enter Try.func42, Try.ntmps42
   go_wp2_with (first | ((with_reducible refine gate_dst (N := 9) rfl ?_); refine box_event ?hg (N := 9) ?hd (cs := #[.int .u32 (X : Int), .int .u32 (B : Int), .bool H]) (t := 32) ?hr ?_; (case hd => rfl); (case hg => rfl); (case hr => first | (go_simp; done) | (go_simp; rfl)); intro gp hg_ w1 hm_ hb_; have GP := Aside0.mk (show w.heap.size ≤ gp by rw [hg_]; exact B_0.out.size); have B_1 := Aside0.mk (below_step B_0.out hb_); have P_1 := Aside0.mk (hm_); have cP0 := (blk_cell P_1.out 0).trans rfl; have cP1 := (blk_cell P_1.out 1).trans rfl; have cP2 := (blk_cell P_1.out 2).trans rfl; clear hm_ hb_ hg_) | (go_at_call 44; (with_reducible refine (IsNaN_calls y HY.out _).mono ?_); rw [c0]; rintro e w2 ⟨rfl, hb⟩; clear cP0 cP1 cP2; have B_2 := Aside0.mk (below_step B_1.out hb); have P_2 := Aside0.mk (blk_below P_1.out hb); clear P_1; have cP0 := (blk_cell P_2.out 0).trans rfl; have cP1 := (blk_cell P_2.out 1).trans rfl; have cP2 := (blk_cell P_2.out 2).trans rfl; clear hb) | (go_at_call 59; (with_reducible refine (Before_calls X lo HX.out HLO.out _).mono ?_); rw [c1]; rintro e w3 ⟨rfl, hd⟩; have hb := hd.below; clear hd; clear cP0 cP1 cP2; have B_3 := Aside0.mk (below_step B_2.out hb); have P_3 := Aside0.mk (blk_below P_2.out hb); clear P_2; have cP0 := (blk_cell P_3.out 0).trans rfl; have cP1 := (blk_cell P_3.out 1).trans rfl; have cP2 := (blk_cell P_3.out 2).trans rfl; clear hb))
   go_ret
   exact ⟨rfl, B_3.out⟩
  have c1 := decide_eq_false d1
  rw [if_neg d1]
  clear d1
  by_cases d2 : kf hi < kf X
  ·have c2 := decide_eq_true d2
   rw [if_pos d2]
   clear d2
   go_enter Try.func42, Try.ntmps42
   go_wp2_with (first | ((with_reducible refine gate_dst (N := 9) rfl ?_); refine box_event ?hg (N := 9) ?hd (cs := #[.int .u32 (X : Int), .int .u32 (B : Int), .bool H]) (t := 32) ?hr ?_; (case hd => rfl); (case hg => rfl); (case hr => first | (go_simp; done) | (go_simp; rfl)); intro gp hg_ w1 hm_ hb_; have GP := Aside0.mk (show w.heap.size ≤ gp by rw [hg_]; exact B_0.out.size); have B_1 := Aside0.mk (below_step B_0.out hb_); have P_1 := Aside0.mk (hm_); have cP0 := (blk_cell P_1.out 0).trans rfl; have cP1 := (blk_cell P_1.out 1).trans rfl; have cP2 := (blk_cell P_1.out 2).trans rfl; clear hm_ hb_ hg_) | (go_at_call 44; (with_reducible refine (IsNaN_calls y HY.out _).mono ?_); rw [c0]; rintro e w2 ⟨rfl, hb⟩; clear cP0 cP1 cP2; have B_2 := Aside0.mk (below_step B_1.out hb); have P_2 := Aside0.mk (blk_below P_1.out hb); clear P_1; have cP0 := (blk_cell P_2.out 0).trans rfl; have cP1 := (blk_cell P_2.out 1).trans rfl; have cP2 := (blk_cell P_2.out 2).trans rfl; clear hb) | (go_at_call 59; (with_reducible refine (Before_calls X lo HX.out HLO.out _).mono ?_); rw [c1]; rintro e w3 ⟨rfl, hd⟩; have hb := hd.below; clear hd; clear cP0 cP1 cP2; have B_3 := Aside0.mk (below_step B_2.out hb); have P_3 := Aside0.mk (blk_below P_2.out hb); clear P_2; have cP0 := (blk_cell P_3.out 0).trans rfl; have cP1 := (blk_cell P_3.out 1).trans rfl; have cP2 := (blk_cell P_3.out 2).trans rfl; clear hb) | (go_at_call 59; (with_reducible refine (Before_calls hi X HHI.out HX.out _).mono ?_); rw [c2]; rintro e w4 ⟨rfl, hd⟩; have hb := hd.below; clear hd; clear cP0 cP1 cP2; have B_4 := Aside0.mk (below_step B_3.out hb); have P_4 := Aside0.mk (blk_below P_3.out hb); clear P_3; have cP0 := (blk_cell P_4.out 0).trans rfl; have cP1 := (blk_cell P_4.out 1).trans rfl; have cP2 := (blk_cell P_4.out 2).trans rfl; clear hb))
   go_ret
   exact ⟨rfl, B_4.out⟩
  have c2 := decide_eq_false d2
  rw [if_neg d2]
  clear d2
  cases c3 : rch F X y
  ·rw [if_pos rfl]
   go_enter Try.func42, Try.ntmps42
   go_wp2_with (first | ((with_reducible refine gate_dst (N := 9) rfl ?_); refine box_event ?hg (N := 9) ?hd (cs := #[.int .u32 (X : Int), .int .u32 (B : Int), .bool H]) (t := 32) ?hr ?_; (case hd => rfl); (case hg => rfl); (case hr => first | (go_simp; done) | (go_simp; rfl)); intro gp hg_ w1 hm_ hb_; have GP := Aside0.mk (show w.heap.size ≤ gp by rw [hg_]; exact B_0.out.size); have B_1 := Aside0.mk (below_step B_0.out hb_); have P_1 := Aside0.mk (hm_); have cP0 := (blk_cell P_1.out 0).trans rfl; have cP1 := (blk_cell P_1.out 1).trans rfl; have cP2 := (blk_cell P_1.out 2).trans rfl; clear hm_ hb_ hg_) | (go_at_call 44; (with_reducible refine (IsNaN_calls y HY.out _).mono ?_); rw [c0]; rintro e w2 ⟨rfl, hb⟩; clear cP0 cP1 cP2; have B_2 := Aside0.mk (below_step B_1.out hb); have P_2 := Aside0.mk (blk_below P_1.out hb); clear P_1; have cP0 := (blk_cell P_2.out 0).trans rfl; have cP1 := (blk_cell P_2.out 1).trans rfl; have cP2 := (blk_cell P_2.out 2).trans rfl; clear hb) | (go_at_call 59; (with_reducible refine (Before_calls X lo HX.out HLO.out _).mono ?_); rw [c1]; rintro e w3 ⟨rfl, hd⟩; have hb := hd.below; clear hd; clear cP0 cP1 cP2; have B_3 := Aside0.mk (below_step B_2.out hb); have P_3 := Aside0.mk (blk_below P_2.out hb); clear P_2; have cP0 := (blk_cell P_3.out 0).trans rfl; have cP1 := (blk_cell P_3.out 1).trans rfl; have cP2 := (blk_cell P_3.out 2).trans rfl; clear hb) | (go_at_call 59; (with_reducible refine (Before_calls hi X HHI.out HX.out _).mono ?_); rw [c2]; rintro e w4 ⟨rfl, hd⟩; have hb := hd.below; clear hd; clear cP0 cP1 cP2; have B_4 := Aside0.mk (below_step B_3.out hb); have P_4 := Aside0.mk (blk_below P_3.out hb); clear P_3; have cP0 := (blk_cell P_4.out 0).trans rfl; have cP1 := (blk_cell P_4.out 1).trans rfl; have cP2 := (blk_cell P_4.out 2).trans rfl; clear hb) | (go_at_call 60; (with_reducible refine (reachesc_calls g X y F _ HX.out HY.out HF.out (fun W2 x hx h2 => HA.out W2 x hx (B_4.out.trans (h2.mono B_4.out.size)))).mono ?_); rw [c3]; rintro e w5 ⟨rfl, hb⟩; clear cP0 cP1 cP2; have B_5 := Aside0.mk (below_step B_4.out hb); have P_5 := Aside0.mk (blk_below P_4.out hb); clear P_4; have cP0 := (blk_cell P_5.out 0).trans rfl; have cP1 := (blk_cell P_5.out 1).trans rfl; have cP2 := (blk_cell P_5.out 2).trans rfl; clear hb))
   go_ret
   exact ⟨rfl, B_5.out⟩
  rw [if_neg (show ¬ (true = false) by decide)]
  have main : ∀ b : Bool, ((X : Int) != (lo : Int)) = b → decide (X ≠ lo) = b → Calls Try.prog 42 #[.iface 26 (.pointer (some ⟨g, 0, none⟩)), .int .u32 (lo : Int), .int .u32 (hi : Int), .int .u32 (y : Int), .agg #[.int .u32 (X : Int), .int .u32 (B : Int), .bool H]] w fun e w' => e = .returned (.bool (if H ≠ decide (X ≠ lo) then false
 else if H = false then decide (B = 0) else decide (kf X ≠ 0) && (decide (B = (if kf X = 0 then 0 else fk (kf X - 1))) && !rch F (if kf X = 0 then 0 else fk (kf X - 1)) y))) ∧ Below w.heap.size w w' := by
     intro b e1 e2
     rw [e2]
     clear e2
     cases b <;> cases H
     ·rw [if_neg (show ¬ (false ≠ false) from fun h => h rfl), if_pos rfl]
      have e4 : ((B : Int) == 0) = decide (B = 0) := by rw [Bool.eq_iff_iff, beq_iff_eq, decide_eq_true_iff]; omega
      rw [← e4]
      clear e4
      go_enter Try.func42, Try.ntmps42
      go_wp2_with (first | ((with_reducible refine gate_dst (N := 9) rfl ?_); refine box_event ?hg (N := 9) ?hd (cs := #[.int .u32 (X : Int), .int .u32 (B : Int), .bool false]) (t := 32) ?hr ?_; (case hd => rfl); (case hg => rfl); (case hr => first | (go_simp; done) | (go_simp; rfl)); intro gp hg_ w1 hm_ hb_; have GP := Aside0.mk (show w.heap.size ≤ gp by rw [hg_]; exact B_0.out.size); have B_1 := Aside0.mk (below_step B_0.out hb_); have P_1 := Aside0.mk (hm_); have cP0 := (blk_cell P_1.out 0).trans rfl; have cP1 := (blk_cell P_1.out 1).trans rfl; have cP2 := (blk_cell P_1.out 2).trans rfl; clear hm_ hb_ hg_) | (go_at_call 44; (with_reducible refine (IsNaN_calls y HY.out _).mono ?_); rw [c0]; rintro e w2 ⟨rfl, hb⟩; clear cP0 cP1 cP2; have B_2 := Aside0.mk (below_step B_1.out hb); have P_2 := Aside0.mk (blk_below P_1.out hb); clear P_1; have cP0 := (blk_cell P_2.out 0).trans rfl; have cP1 := (blk_cell P_2.out 1).trans rfl; have cP2 := (blk_cell P_2.out 2).trans rfl; clear hb) | (go_at_call 59; (with_reducible refine (Before_calls X lo HX.out HLO.out _).mono ?_); rw [c1]; rintro e w3 ⟨rfl, hd⟩; have hb := hd.below; clear hd; clear cP0 cP1 cP2; have B_3 := Aside0.mk (below_step B_2.out hb); have P_3 := Aside0.mk (blk_below P_2.out hb); clear P_2; have cP0 := (blk_cell P_3.out 0).trans rfl; have cP1 := (blk_cell P_3.out 1).trans rfl; have cP2 := (blk_cell P_3.out 2).trans rfl; clear hb) | (go_at_call 59; (with_reducible refine (Before_calls hi X HHI.out HX.out _).mono ?_); rw [c2]; rintro e w4 ⟨rfl, hd⟩; have hb := hd.below; clear hd; clear cP0 cP1 cP2; have B_4 := Aside0.mk (below_step B_3.out hb); have P_4 := Aside0.mk (blk_below P_3.out hb); clear P_3; have cP0 := (blk_cell P_4.out 0).trans rfl; have cP1 := (blk_cell P_4.out 1).trans rfl; have cP2 := (blk_cell P_4.out 2).trans rfl; clear hb) | (go_at_call 60; (with_reducible refine (reachesc_calls g X y F _ HX.out HY.out HF.out (fun W2 x hx h2 => HA.out W2 x hx (B_4.out.trans (h2.mono B_4.out.size)))).mono ?_); rw [c3]; rintro e w5 ⟨rfl, hb⟩; clear cP0 cP1 cP2; have B_5 := Aside0.mk (below_step B_4.out hb); have P_5 := Aside0.mk (blk_below P_4.out hb); clear P_4; have cP0 := (blk_cell P_5.out 0).trans rfl; have cP1 := (blk_cell P_5.out 1).trans rfl; have cP2 := (blk_cell P_5.out 2).trans rfl; clear hb))
      go_ret
      exact ⟨rfl, B_5.out⟩
     ·rw [if_pos (show true ≠ false by decide)]
      go_enter Try.func42, Try.ntmps42
      go_wp2_with (first | ((with_reducible refine gate_dst (N := 9) rfl ?_); refine box_event ?hg (N := 9) ?hd (cs := #[.int .u32 (X : Int), .int .u32 (B : Int), .bool true]) (t := 32) ?hr ?_; (case hd => rfl); (case hg => rfl); (case hr => first | (go_simp; done) | (go_simp; rfl)); intro gp hg_ w1 hm_ hb_; have GP := Aside0.mk (show w.heap.size ≤ gp by rw [hg_]; exact B_0.out.size); have B_1 := Aside0.mk (below_step B_0.out hb_); have P_1 := Aside0.mk (hm_); have cP0 := (blk_cell P_1.out 0).trans rfl; have cP1 := (blk_cell P_1.out 1).trans rfl; have cP2 := (blk_cell P_1.out 2).trans rfl; clear hm_ hb_ hg_) | (go_at_call 44; (with_reducible refine (IsNaN_calls y HY.out _).mono ?_); rw [c0]; rintro e w2 ⟨rfl, hb⟩; clear cP0 cP1 cP2; have B_2 := Aside0.mk (below_step B_1.out hb); have P_2 := Aside0.mk (blk_below P_1.out hb); clear P_1; have cP0 := (blk_cell P_2.out 0).trans rfl; have cP1 := (blk_cell P_2.out 1).trans rfl; have cP2 := (blk_cell P_2.out 2).trans rfl; clear hb) | (go_at_call 59; (with_reducible refine (Before_calls X lo HX.out HLO.out _).mono ?_); rw [c1]; rintro e w3 ⟨rfl, hd⟩; have hb := hd.below; clear hd; clear cP0 cP1 cP2; have B_3 := Aside0.mk (below_step B_2.out hb); have P_3 := Aside0.mk (blk_below P_2.out hb); clear P_2; have cP0 := (blk_cell P_3.out 0).trans rfl; have cP1 := (blk_cell P_3.out 1).trans rfl; have cP2 := (blk_cell P_3.out 2).trans rfl; clear hb) | (go_at_call 59; (with_reducible refine (Before_calls hi X HHI.out HX.out _).mono ?_); rw [c2]; rintro e w4 ⟨rfl, hd⟩; have hb := hd.below; clear hd; clear cP0 cP1 cP2; have B_4 := Aside0.mk (below_step B_3.out hb); have P_4 := Aside0.mk (blk_below P_3.out hb); clear P_3; have cP0 := (blk_cell P_4.out 0).trans rfl; have cP1 := (blk_cell P_4.out 1).trans rfl; have cP2 := (blk_cell P_4.out 2).trans rfl; clear hb) | (go_at_call 60; (with_reducible refine (reachesc_calls g X y F _ HX.out HY.out HF.out (fun W2 x hx h2 => HA.out W2 x hx (B_4.out.trans (h2.mono B_4.out.size)))).mono ?_); rw [c3]; rintro e w5 ⟨rfl, hb⟩; clear cP0 cP1 cP2; have B_5 := Aside0.mk (below_step B_4.out hb); have P_5 := Aside0.mk (blk_below P_4.out hb); clear P_4; have cP0 := (blk_cell P_5.out 0).trans rfl; have cP1 := (blk_cell P_5.out 1).trans rfl; have cP2 := (blk_cell P_5.out 2).trans rfl; clear hb))
      go_ret
      exact ⟨rfl, B_5.out⟩
     ·rw [if_pos (show false ≠ true by decide)]
      go_enter Try.func42, Try.ntmps42
      go_wp2_with (first | ((with_reducible refine gate_dst (N := 9) rfl ?_); refine box_event ?hg (N := 9) ?hd (cs := #[.int .u32 (X : Int), .int .u32 (B : Int), .bool false]) (t := 32) ?hr ?_; (case hd => rfl); (case hg => rfl); (case hr => first | (go_simp; done) | (go_simp; rfl)); intro gp hg_ w1 hm_ hb_; have GP := Aside0.mk (show w.heap.size ≤ gp by rw [hg_]; exact B_0.out.size); have B_1 := Aside0.mk (below_step B_0.out hb_); have P_1 := Aside0.mk (hm_); have cP0 := (blk_cell P_1.out 0).trans rfl; have cP1 := (blk_cell P_1.out 1).trans rfl; have cP2 := (blk_cell P_1.out 2).trans rfl; clear hm_ hb_ hg_) | (go_at_call 44; (with_reducible refine (IsNaN_calls y HY.out _).mono ?_); rw [c0]; rintro e w2 ⟨rfl, hb⟩; clear cP0 cP1 cP2; have B_2 := Aside0.mk (below_step B_1.out hb); have P_2 := Aside0.mk (blk_below P_1.out hb); clear P_1; have cP0 := (blk_cell P_2.out 0).trans rfl; have cP1 := (blk_cell P_2.out 1).trans rfl; have cP2 := (blk_cell P_2.out 2).trans rfl; clear hb) | (go_at_call 59; (with_reducible refine (Before_calls X lo HX.out HLO.out _).mono ?_); rw [c1]; rintro e w3 ⟨rfl, hd⟩; have hb := hd.below; clear hd; clear cP0 cP1 cP2; have B_3 := Aside0.mk (below_step B_2.out hb); have P_3 := Aside0.mk (blk_below P_2.out hb); clear P_2; have cP0 := (blk_cell P_3.out 0).trans rfl; have cP1 := (blk_cell P_3.out 1).trans rfl; have cP2 := (blk_cell P_3.out 2).trans rfl; clear hb) | (go_at_call 59; (with_reducible refine (Before_calls hi X HHI.out HX.out _).mono ?_); rw [c2]; rintro e w4 ⟨rfl, hd⟩; have hb := hd.below; clear hd; clear cP0 cP1 cP2; have B_4 := Aside0.mk (below_step B_3.out hb); have P_4 := Aside0.mk (blk_below P_3.out hb); clear P_3; have cP0 := (blk_cell P_4.out 0).trans rfl; have cP1 := (blk_cell P_4.out 1).trans rfl; have cP2 := (blk_cell P_4.out 2).trans rfl; clear hb) | (go_at_call 60; (with_reducible refine (reachesc_calls g X y F _ HX.out HY.out HF.out (fun W2 x hx h2 => HA.out W2 x hx (B_4.out.trans (h2.mono B_4.out.size)))).mono ?_); rw [c3]; rintro e w5 ⟨rfl, hb⟩; clear cP0 cP1 cP2; have B_5 := Aside0.mk (below_step B_4.out hb); have P_5 := Aside0.mk (blk_below P_4.out hb); clear P_4; have cP0 := (blk_cell P_5.out 0).trans rfl; have cP1 := (blk_cell P_5.out 1).trans rfl; have cP2 := (blk_cell P_5.out 2).trans rfl; clear hb))
      go_ret
      exact ⟨rfl, B_5.out⟩
     ·rw [if_neg (show ¬ (true ≠ true) from fun h => h rfl), if_neg (show ¬ (true = false) by decide)]
      obtain ⟨q, hq⟩ : ∃ q, (if kf X = 0 then 0 else fk (kf X - 1)) = q := ⟨_, rfl⟩
      have HQ : Aside0 (q < 4294967296) := ⟨by
       rw [← hq]
       have := kf_word HX.out
       split
       ·decide
       ·exact fk_word (by omega)⟩
      have hpv := hq
      rw [hq]
      have e4 : ((B : Int) == (q : Int)) = decide (B = q) := by rw [Bool.eq_iff_iff, beq_iff_eq, decide_eq_true_iff]; omega
      rw [← e4]
      clear e4 hq
      obtain ⟨t1, h1⟩ : ∃ t, decide (kf X ≠ 0) = t := ⟨_, rfl⟩
      obtain ⟨t2, h2⟩ : ∃ t, ((B : Int) == (q : Int)) = t := ⟨_, rfl⟩
      rw [h1, h2]
      cases t1
      ·go_enter Try.func42, Try.ntmps42
       go_wp2_with (first | ((with_reducible refine gate_dst (N := 9) rfl ?_); refine box_event ?hg (N := 9) ?hd (cs := #[.int .u32 (X : Int), .int .u32 (B : Int), .bool true]) (t := 32) ?hr ?_; (case hd => rfl); (case hg => rfl); (case hr => first | (go_simp; done) | (go_simp; rfl)); intro gp hg_ w1 hm_ hb_; have GP := Aside0.mk (show w.heap.size ≤ gp by rw [hg_]; exact B_0.out.size); have B_1 := Aside0.mk (below_step B_0.out hb_); have P_1 := Aside0.mk (hm_); have cP0 := (blk_cell P_1.out 0).trans rfl; have cP1 := (blk_cell P_1.out 1).trans rfl; have cP2 := (blk_cell P_1.out 2).trans rfl; clear hm_ hb_ hg_) | (go_at_call 44; (with_reducible refine (IsNaN_calls y HY.out _).mono ?_); rw [c0]; rintro e w2 ⟨rfl, hb⟩; clear cP0 cP1 cP2; have B_2 := Aside0.mk (below_step B_1.out hb); have P_2 := Aside0.mk (blk_below P_1.out hb); clear P_1; have cP0 := (blk_cell P_2.out 0).trans rfl; have cP1 := (blk_cell P_2.out 1).trans rfl; have cP2 := (blk_cell P_2.out 2).trans rfl; clear hb) | (go_at_call 59; (with_reducible refine (Before_calls X lo HX.out HLO.out _).mono ?_); rw [c1]; rintro e w3 ⟨rfl, hd⟩; have hb := hd.below; clear hd; clear cP0 cP1 cP2; have B_3 := Aside0.mk (below_step B_2.out hb); have P_3 := Aside0.mk (blk_below P_2.out hb); clear P_2; have cP0 := (blk_cell P_3.out 0).trans rfl; have cP1 := (blk_cell P_3.out 1).trans rfl; have cP2 := (blk_cell P_3.out 2).trans rfl; clear hb) | (go_at_call 59; (with_reducible refine (Before_calls hi X HHI.out HX.out _).mono ?_); rw [c2]; rintro e w4 ⟨rfl, hd⟩; have hb := hd.below; clear hd; clear cP0 cP1 cP2; have B_4 := Aside0.mk (below_step B_3.out hb); have P_4 := Aside0.mk (blk_below P_3.out hb); clear P_3; have cP0 := (blk_cell P_4.out 0).trans rfl; have cP1 := (blk_cell P_4.out 1).trans rfl; have cP2 := (blk_cell P_4.out 2).trans rfl; clear hb) | (go_at_call 60; (with_reducible refine (reachesc_calls g X y F _ HX.out HY.out HF.out (fun W2 x hx h2 => HA.out W2 x hx (B_4.out.trans (h2.mono B_4.out.size)))).mono ?_); rw [c3]; rintro e w5 ⟨rfl, hb⟩; clear cP0 cP1 cP2; have B_5 := Aside0.mk (below_step B_4.out hb); have P_5 := Aside0.mk (blk_below P_4.out hb); clear P_4; have cP0 := (blk_cell P_5.out 0).trans rfl; have cP1 := (blk_cell P_5.out 1).trans rfl; have cP2 := (blk_cell P_5.out 2).trans rfl; clear hb) | (go_at_call 58; (with_reducible refine (Prev_calls X HX.out _).mono ?_); rw [hpv]; rintro e w6 ⟨rfl, hd⟩; have hb := hd.below; clear hd; clear cP0 cP1 cP2; have B_6 := Aside0.mk (below_step B_5.out hb); have P_6 := Aside0.mk (blk_below P_5.out hb); clear P_5; have cP0 := (blk_cell P_6.out 0).trans rfl; have cP1 := (blk_cell P_6.out 1).trans rfl; have cP2 := (blk_cell P_6.out 2).trans rfl; clear hb))
       go_ret
       exact ⟨rfl, B_6.out⟩
      cases t2
      ·go_enter Try.func42, Try.ntmps42
       go_wp2_with (first | ((with_reducible refine gate_dst (N := 9) rfl ?_); refine box_event ?hg (N := 9) ?hd (cs := #[.int .u32 (X : Int), .int .u32 (B : Int), .bool true]) (t := 32) ?hr ?_; (case hd => rfl); (case hg => rfl); (case hr => first | (go_simp; done) | (go_simp; rfl)); intro gp hg_ w1 hm_ hb_; have GP := Aside0.mk (show w.heap.size ≤ gp by rw [hg_]; exact B_0.out.size); have B_1 := Aside0.mk (below_step B_0.out hb_); have P_1 := Aside0.mk (hm_); have cP0 := (blk_cell P_1.out 0).trans rfl; have cP1 := (blk_cell P_1.out 1).trans rfl; have cP2 := (blk_cell P_1.out 2).trans rfl; clear hm_ hb_ hg_) | (go_at_call 44; (with_reducible refine (IsNaN_calls y HY.out _).mono ?_); rw [c0]; rintro e w2 ⟨rfl, hb⟩; clear cP0 cP1 cP2; have B_2 := Aside0.mk (below_step B_1.out hb); have P_2 := Aside0.mk (blk_below P_1.out hb); clear P_1; have cP0 := (blk_cell P_2.out 0).trans rfl; have cP1 := (blk_cell P_2.out 1).trans rfl; have cP2 := (blk_cell P_2.out 2).trans rfl; clear hb) | (go_at_call 59; (with_reducible refine (Before_calls X lo HX.out HLO.out _).mono ?_); rw [c1]; rintro e w3 ⟨rfl, hd⟩; have hb := hd.below; clear hd; clear cP0 cP1 cP2; have B_3 := Aside0.mk (below_step B_2.out hb); have P_3 := Aside0.mk (blk_below P_2.out hb); clear P_2; have cP0 := (blk_cell P_3.out 0).trans rfl; have cP1 := (blk_cell P_3.out 1).trans rfl; have cP2 := (blk_cell P_3.out 2).trans rfl; clear hb) | (go_at_call 59; (with_reducible refine (Before_calls hi X HHI.out HX.out _).mono ?_); rw [c2]; rintro e w4 ⟨rfl, hd⟩; have hb := hd.below; clear hd; clear cP0 cP1 cP2; have B_4 := Aside0.mk (below_step B_3.out hb); have P_4 := Aside0.mk (blk_below P_3.out hb); clear P_3; have cP0 := (blk_cell P_4.out 0).trans rfl; have cP1 := (blk_cell P_4.out 1).trans rfl; have cP2 := (blk_cell P_4.out 2).trans rfl; clear hb) | (go_at_call 60; (with_reducible refine (reachesc_calls g X y F _ HX.out HY.out HF.out (fun W2 x hx h2 => HA.out W2 x hx (B_4.out.trans (h2.mono B_4.out.size)))).mono ?_); rw [c3]; rintro e w5 ⟨rfl, hb⟩; clear cP0 cP1 cP2; have B_5 := Aside0.mk (below_step B_4.out hb); have P_5 := Aside0.mk (blk_below P_4.out hb); clear P_4; have cP0 := (blk_cell P_5.out 0).trans rfl; have cP1 := (blk_cell P_5.out 1).trans rfl; have cP2 := (blk_cell P_5.out 2).trans rfl; clear hb) | (go_at_call 58; (with_reducible refine (Prev_calls X HX.out _).mono ?_); rw [hpv]; rintro e w6 ⟨rfl, hd⟩; have hb := hd.below; clear hd; clear cP0 cP1 cP2; have B_6 := Aside0.mk (below_step B_5.out hb); have P_6 := Aside0.mk (blk_below P_5.out hb); clear P_5; have cP0 := (blk_cell P_6.out 0).trans rfl; have cP1 := (blk_cell P_6.out 1).trans rfl; have cP2 := (blk_cell P_6.out 2).trans rfl; clear hb))
       go_ret
       exact ⟨rfl, B_6.out⟩
      cases c5 : rch F q y
      ·go_enter Try.func42, Try.ntmps42
       go_wp2_with (first | ((with_reducible refine gate_dst (N := 9) rfl ?_); refine box_event ?hg (N := 9) ?hd (cs := #[.int .u32 (X : Int), .int .u32 (B : Int), .bool true]) (t := 32) ?hr ?_; (case hd => rfl); (case hg => rfl); (case hr => first | (go_simp; done) | (go_simp; rfl)); intro gp hg_ w1 hm_ hb_; have GP := Aside0.mk (show w.heap.size ≤ gp by rw [hg_]; exact B_0.out.size); have B_1 := Aside0.mk (below_step B_0.out hb_); have P_1 := Aside0.mk (hm_); have cP0 := (blk_cell P_1.out 0).trans rfl; have cP1 := (blk_cell P_1.out 1).trans rfl; have cP2 := (blk_cell P_1.out 2).trans rfl; clear hm_ hb_ hg_) | (go_at_call 44; (with_reducible refine (IsNaN_calls y HY.out _).mono ?_); rw [c0]; rintro e w2 ⟨rfl, hb⟩; clear cP0 cP1 cP2; have B_2 := Aside0.mk (below_step B_1.out hb); have P_2 := Aside0.mk (blk_below P_1.out hb); clear P_1; have cP0 := (blk_cell P_2.out 0).trans rfl; have cP1 := (blk_cell P_2.out 1).trans rfl; have cP2 := (blk_cell P_2.out 2).trans rfl; clear hb) | (go_at_call 59; (with_reducible refine (Before_calls X lo HX.out HLO.out _).mono ?_); rw [c1]; rintro e w3 ⟨rfl, hd⟩; have hb := hd.below; clear hd; clear cP0 cP1 cP2; have B_3 := Aside0.mk (below_step B_2.out hb); have P_3 := Aside0.mk (blk_below P_2.out hb); clear P_2; have cP0 := (blk_cell P_3.out 0).trans rfl; have cP1 := (blk_cell P_3.out 1).trans rfl; have cP2 := (blk_cell P_3.out 2).trans rfl; clear hb) | (go_at_call 59; (with_reducible refine (Before_calls hi X HHI.out HX.out _).mono ?_); rw [c2]; rintro e w4 ⟨rfl, hd⟩; have hb := hd.below; clear hd; clear cP0 cP1 cP2; have B_4 := Aside0.mk (below_step B_3.out hb); have P_4 := Aside0.mk (blk_below P_3.out hb); clear P_3; have cP0 := (blk_cell P_4.out 0).trans rfl; have cP1 := (blk_cell P_4.out 1).trans rfl; have cP2 := (blk_cell P_4.out 2).trans rfl; clear hb) | (go_at_call 60; (with_reducible refine (reachesc_calls g X y F _ HX.out HY.out HF.out (fun W2 x hx h2 => HA.out W2 x hx (B_4.out.trans (h2.mono B_4.out.size)))).mono ?_); rw [c3]; rintro e w5 ⟨rfl, hb⟩; clear cP0 cP1 cP2; have B_5 := Aside0.mk (below_step B_4.out hb); have P_5 := Aside0.mk (blk_below P_4.out hb); clear P_4; have cP0 := (blk_cell P_5.out 0).trans rfl; have cP1 := (blk_cell P_5.out 1).trans rfl; have cP2 := (blk_cell P_5.out 2).trans rfl; clear hb) | (go_at_call 58; (with_reducible refine (Prev_calls X HX.out _).mono ?_); rw [hpv]; rintro e w6 ⟨rfl, hd⟩; have hb := hd.below; clear hd; clear cP0 cP1 cP2; have B_6 := Aside0.mk (below_step B_5.out hb); have P_6 := Aside0.mk (blk_below P_5.out hb); clear P_5; have cP0 := (blk_cell P_6.out 0).trans rfl; have cP1 := (blk_cell P_6.out 1).trans rfl; have cP2 := (blk_cell P_6.out 2).trans rfl; clear hb) | (go_at_call 60; (with_reducible refine (reachesc_calls g q y F _ HQ.out HY.out HF.out (fun W2 x hx h2 => HA.out W2 x hx (B_6.out.trans (h2.mono B_6.out.size)))).mono ?_); rw [c5]; rintro e w7 ⟨rfl, hb⟩; clear cP0 cP1 cP2; have B_7 := Aside0.mk (below_step B_6.out hb); have P_7 := Aside0.mk (blk_below P_6.out hb); clear P_6; have cP0 := (blk_cell P_7.out 0).trans rfl; have cP1 := (blk_cell P_7.out 1).trans rfl; have cP2 := (blk_cell P_7.out 2).trans rfl; clear hb))
       go_ret
       exact ⟨rfl, B_7.out⟩
      ·go_enter Try.func42, Try.ntmps42
       go_wp2_with (first | ((with_reducible refine gate_dst (N := 9) rfl ?_); refine box_event ?hg (N := 9) ?hd (cs := #[.int .u32 (X : Int), .int .u32 (B : Int), .bool true]) (t := 32) ?hr ?_; (case hd => rfl); (case hg => rfl); (case hr => first | (go_simp; done) | (go_simp; rfl)); intro gp hg_ w1 hm_ hb_; have GP := Aside0.mk (show w.heap.size ≤ gp by rw [hg_]; exact B_0.out.size); have B_1 := Aside0.mk (below_step B_0.out hb_); have P_1 := Aside0.mk (hm_); have cP0 := (blk_cell P_1.out 0).trans rfl; have cP1 := (blk_cell P_1.out 1).trans rfl; have cP2 := (blk_cell P_1.out 2).trans rfl; clear hm_ hb_ hg_) | (go_at_call 44; (with_reducible refine (IsNaN_calls y HY.out _).mono ?_); rw [c0]; rintro e w2 ⟨rfl, hb⟩; clear cP0 cP1 cP2; have B_2 := Aside0.mk (below_step B_1.out hb); have P_2 := Aside0.mk (blk_below P_1.out hb); clear P_1; have cP0 := (blk_cell P_2.out 0).trans rfl; have cP1 := (blk_cell P_2.out 1).trans rfl; have cP2 := (blk_cell P_2.out 2).trans rfl; clear hb) | (go_at_call 59; (with_reducible refine (Before_calls X lo HX.out HLO.out _).mono ?_); rw [c1]; rintro e w3 ⟨rfl, hd⟩; have hb := hd.below; clear hd; clear cP0 cP1 cP2; have B_3 := Aside0.mk (below_step B_2.out hb); have P_3 := Aside0.mk (blk_below P_2.out hb); clear P_2; have cP0 := (blk_cell P_3.out 0).trans rfl; have cP1 := (blk_cell P_3.out 1).trans rfl; have cP2 := (blk_cell P_3.out 2).trans rfl; clear hb) | (go_at_call 59; (with_reducible refine (Before_calls hi X HHI.out HX.out _).mono ?_); rw [c2]; rintro e w4 ⟨rfl, hd⟩; have hb := hd.below; clear hd; clear cP0 cP1 cP2; have B_4 := Aside0.mk (below_step B_3.out hb); have P_4 := Aside0.mk (blk_below P_3.out hb); clear P_3; have cP0 := (blk_cell P_4.out 0).trans rfl; have cP1 := (blk_cell P_4.out 1).trans rfl; have cP2 := (blk_cell P_4.out 2).trans rfl; clear hb) | (go_at_call 60; (with_reducible refine (reachesc_calls g X y F _ HX.out HY.out HF.out (fun W2 x hx h2 => HA.out W2 x hx (B_4.out.trans (h2.mono B_4.out.size)))).mono ?_); rw [c3]; rintro e w5 ⟨rfl, hb⟩; clear cP0 cP1 cP2; have B_5 := Aside0.mk (below_step B_4.out hb); have P_5 := Aside0.mk (blk_below P_4.out hb); clear P_4; have cP0 := (blk_cell P_5.out 0).trans rfl; have cP1 := (blk_cell P_5.out 1).trans rfl; have cP2 := (blk_cell P_5.out 2).trans rfl; clear hb) | (go_at_call 58; (with_reducible refine (Prev_calls X HX.out _).mono ?_); rw [hpv]; rintro e w6 ⟨rfl, hd⟩; have hb := hd.below; clear hd; clear cP0 cP1 cP2; have B_6 := Aside0.mk (below_step B_5.out hb); have P_6 := Aside0.mk (blk_below P_5.out hb); clear P_5; have cP0 := (blk_cell P_6.out 0).trans rfl; have cP1 := (blk_cell P_6.out 1).trans rfl; have cP2 := (blk_cell P_6.out 2).trans rfl; clear hb) | (go_at_call 60; (with_reducible refine (reachesc_calls g q y F _ HQ.out HY.out HF.out (fun W2 x hx h2 => HA.out W2 x hx (B_6.out.trans (h2.mono B_6.out.size)))).mono ?_); rw [c5]; rintro e w7 ⟨rfl, hb⟩; clear cP0 cP1 cP2; have B_7 := Aside0.mk (below_step B_6.out hb); have P_7 := Aside0.mk (blk_below P_6.out hb); clear P_6; have cP0 := (blk_cell P_7.out 0).trans rfl; have cP1 := (blk_cell P_7.out 1).trans rfl; have cP2 := (blk_cell P_7.out 2).trans rfl; clear hb))
       go_ret
       exact ⟨rfl, B_7.out⟩
  refine main _ rfl ?_
  by_cases h : X = lo
  ·rw [h, decide_eq_false (fun h => h rfl)]; exact (bne_self_eq_false _).symm
  ·rw [decide_eq_true h]; symm; exact bne_iff_ne.mpr (by omega)
 ·rw [if_pos rfl]
  go_enter Try.func42, Try.ntmps42
  go_wp2_with (first | ((with_reducible refine gate_dst (N := 9) rfl ?_); refine box_event ?hg (N := 9) ?hd (cs := #[.int .u32 (X : Int), .int .u32 (B : Int), .bool H]) (t := 32) ?hr ?_; (case hd => rfl); (case hg => rfl); (case hr => first | (go_simp; done) | (go_simp; rfl)); intro gp hg_ w1 hm_ hb_; have GP := Aside0.mk (show w.heap.size ≤ gp by rw [hg_]; exact B_0.out.size); have B_1 := Aside0.mk (below_step B_0.out hb_); have P_1 := Aside0.mk (hm_); have cP0 := (blk_cell P_1.out 0).trans rfl; have cP1 := (blk_cell P_1.out 1).trans rfl; have cP2 := (blk_cell P_1.out 2).trans rfl; clear hm_ hb_ hg_) | (go_at_call 44; (with_reducible refine (IsNaN_calls y HY.out _).mono ?_); rw [c0]; rintro e w2 ⟨rfl, hb⟩; clear cP0 cP1 cP2; have B_2 := Aside0.mk (below_step B_1.out hb); have P_2 := Aside0.mk (blk_below P_1.out hb); clear P_1; have cP0 := (blk_cell P_2.out 0).trans rfl; have cP1 := (blk_cell P_2.out 1).trans rfl; have cP2 := (blk_cell P_2.out 2).trans rfl; clear hb))
  go_ret
  exact ⟨rfl, B_2.out⟩
set_option maxHeartbeats 4000000 in
theorem reachesh_calls (g x y : Nat) (F : Nat → Nat) (w : World) (hx : x < 4294967296) (hy : y < 4294967296) (hF : ∀ x, x < 4294967296 → F x < 4294967296) (hA : ∀ (W : World) (x : Nat), x < 4294967296 → Below w.heap.size w W → Calls Try.prog 22 #[.pointer (some ⟨g, 0, none⟩), .int .u32 (x : Int)] W fun e w' => e = .returned (.int .u32 ((F x : Nat) : Int)) ∧ Below W.heap.size W w') :
    Calls Try.prog 60 #[.iface 48 (.pointer (some ⟨g, 0, none⟩)), .int .u32 (x : Int), .int .u32 (y : Int)] w fun e w' => e = .returned (.bool (rch F x y)) ∧ Below w.heap.size w w' := by
 have HA := Aside0.mk hA
 have HX := Aside0.mk hx
 have HY := Aside0.mk hy
 have HV : Aside0 (F x < 4294967296) := ⟨hF x hx⟩
 have B_0 : Aside0 (Below w.heap.size w w) := ⟨Below.refl _ _⟩
 have hm : ∀ w, (method 213 48 (.pointer (some ⟨g, 0, none⟩)) "At").run Try.prog w = .ok (22, .pointer (some ⟨g, 0, none⟩)) w := fun _ => by kernel_rfl
 have hn : ∀ w, (nilAhead 213 48 (.pointer (some ⟨g, 0, none⟩)) "At").run Try.prog w = .ok (some false) w := fun _ => by kernel_rfl
 clear hA hx hy hF
 unfold rch
 cases c1 : lt y (F x)
 ·rw [Bool.false_or]
  go_enter Try.func60, Try.ntmps60
  go_wp2_with (first | (go_at_call 22; (with_reducible refine (HA.out _ x HX.out (Below.refl _ _)).mono ?_); rintro e w1 ⟨rfl, hb⟩; have B_1 := Aside0.mk (below_step B_0.out hb); clear hb) | (go_at_call 45; with_reducible refine (Less_calls y (F x) HY.out HV.out _).mono ?_; rw [c1]; rintro e _ ⟨rfl, rfl⟩) | (go_at_call 48; with_reducible refine (Equal_calls y (F x) HY.out HV.out _).mono ?_; rintro e _ ⟨rfl, rfl⟩))
  go_ret
  exact ⟨rfl, B_1.out⟩
 ·rw [Bool.true_or]
  go_enter Try.func60, Try.ntmps60
  go_wp2_with (first | (go_at_call 22; (with_reducible refine (HA.out _ x HX.out (Below.refl _ _)).mono ?_); rintro e w1 ⟨rfl, hb⟩; have B_1 := Aside0.mk (below_step B_0.out hb); clear hb) | (go_at_call 45; with_reducible refine (Less_calls y (F x) HY.out HV.out _).mono ?_; rw [c1]; rintro e _ ⟨rfl, rfl⟩))
  go_ret
  exact ⟨rfl, B_1.out⟩
set_option maxHeartbeats 8000000 in
theorem provedh_calls (g lo hi y X B : Nat) (H : Bool) (F : Nat → Nat) (w : World) (hlo : lo < 4294967296) (hhi : hi < 4294967296) (hy : y < 4294967296) (hX : X < 4294967296) (hF : ∀ x, x < 4294967296 → F x < 4294967296) (hA : ∀ (W : World) (x : Nat), x < 4294967296 → Below w.heap.size w W → Calls Try.prog 22 #[.pointer (some ⟨g, 0, none⟩), .int .u32 (x : Int)] W fun e w' => e = .returned (.int .u32 ((F x : Nat) : Int)) ∧ Below W.heap.size W w') :
    Calls Try.prog 42 #[.iface 48 (.pointer (some ⟨g, 0, none⟩)), .int .u32 (lo : Int), .int .u32 (hi : Int), .int .u32 (y : Int), .agg #[.int .u32 (X : Int), .int .u32 (B : Int), .bool H]] w fun e w' => e = .returned (.bool (ckP F lo hi y ⟨X, B, H⟩)) ∧ Below w.heap.size w w' := by
 have HA := Aside0.mk hA
 have HF := Aside0.mk hF
 have HX := Aside0.mk hX
 have HY := Aside0.mk hy
 have HLO := Aside0.mk hlo
 have HHI := Aside0.mk hhi
 unfold ckP
 simp only
 have B_0 : Aside0 (Below w.heap.size w w) := ⟨Below.refl _ _⟩
 clear hA hF hX hy hlo hhi
 cases c0 : isnan y
 ·rw [if_neg (show ¬ (false = true) by decide)]
  by_cases d1 : kf X < kf lo
  ·have c1 := decide_eq_true d1
   rw [if_pos d1]
   clear d1
   go_enter Try.func42, Try.ntmps42
   go_wp2_with (first | ((with_reducible refine gate_dst (N := 9) rfl ?_); refine box_event ?hg (N := 9) ?hd (cs := #[.int .u32 (X : Int), .int .u32 (B : Int), .bool H]) (t := 32) ?hr ?_; (case hd => rfl); (case hg => rfl); (case hr => first | (go_simp; done) | (go_simp; rfl)); intro gp hg_ w1 hm_ hb_; have GP := Aside0.mk (show w.heap.size ≤ gp by rw [hg_]; exact B_0.out.size); have B_1 := Aside0.mk (below_step B_0.out hb_); have P_1 := Aside0.mk (hm_); have cP0 := (blk_cell P_1.out 0).trans rfl; have cP1 := (blk_cell P_1.out 1).trans rfl; have cP2 := (blk_cell P_1.out 2).trans rfl; clear hm_ hb_ hg_) | (go_at_call 44; (with_reducible refine (IsNaN_calls y HY.out _).mono ?_); rw [c0]; rintro e w2 ⟨rfl, hb⟩; clear cP0 cP1 cP2; have B_2 := Aside0.mk (below_step B_1.out hb); have P_2 := Aside0.mk (blk_below P_1.out hb); clear P_1; have cP0 := (blk_cell P_2.out 0).trans rfl; have cP1 := (blk_cell P_2.out 1).trans rfl; have cP2 := (blk_cell P_2.out 2).trans rfl; clear hb) | (go_at_call 59; (with_reducible refine (Before_calls X lo HX.out HLO.out _).mono ?_); rw [c1]; rintro e w3 ⟨rfl, hd⟩; have hb := hd.below; clear hd; clear cP0 cP1 cP2; have B_3 := Aside0.mk (below_step B_2.out hb); have P_3 := Aside0.mk (blk_below P_2.out hb); clear P_2; have cP0 := (blk_cell P_3.out 0).trans rfl; have cP1 := (blk_cell P_3.out 1).trans rfl; have cP2 := (blk_cell P_3.out 2).trans rfl; clear hb))
   go_ret
   exact ⟨rfl, B_3.out⟩
  have c1 := decide_eq_false d1
  rw [if_neg d1]
  clear d1
  by_cases d2 : kf hi < kf X
  ·have c2 := decide_eq_true d2
   rw [if_pos d2]
   clear d2
   go_enter Try.func42, Try.ntmps42
   go_wp2_with (first | ((with_reducible refine gate_dst (N := 9) rfl ?_); refine box_event ?hg (N := 9) ?hd (cs := #[.int .u32 (X : Int), .int .u32 (B : Int), .bool H]) (t := 32) ?hr ?_; (case hd => rfl); (case hg => rfl); (case hr => first | (go_simp; done) | (go_simp; rfl)); intro gp hg_ w1 hm_ hb_; have GP := Aside0.mk (show w.heap.size ≤ gp by rw [hg_]; exact B_0.out.size); have B_1 := Aside0.mk (below_step B_0.out hb_); have P_1 := Aside0.mk (hm_); have cP0 := (blk_cell P_1.out 0).trans rfl; have cP1 := (blk_cell P_1.out 1).trans rfl; have cP2 := (blk_cell P_1.out 2).trans rfl; clear hm_ hb_ hg_) | (go_at_call 44; (with_reducible refine (IsNaN_calls y HY.out _).mono ?_); rw [c0]; rintro e w2 ⟨rfl, hb⟩; clear cP0 cP1 cP2; have B_2 := Aside0.mk (below_step B_1.out hb); have P_2 := Aside0.mk (blk_below P_1.out hb); clear P_1; have cP0 := (blk_cell P_2.out 0).trans rfl; have cP1 := (blk_cell P_2.out 1).trans rfl; have cP2 := (blk_cell P_2.out 2).trans rfl; clear hb) | (go_at_call 59; (with_reducible refine (Before_calls X lo HX.out HLO.out _).mono ?_); rw [c1]; rintro e w3 ⟨rfl, hd⟩; have hb := hd.below; clear hd; clear cP0 cP1 cP2; have B_3 := Aside0.mk (below_step B_2.out hb); have P_3 := Aside0.mk (blk_below P_2.out hb); clear P_2; have cP0 := (blk_cell P_3.out 0).trans rfl; have cP1 := (blk_cell P_3.out 1).trans rfl; have cP2 := (blk_cell P_3.out 2).trans rfl; clear hb) | (go_at_call 59; (with_reducible refine (Before_calls hi X HHI.out HX.out _).mono ?_); rw [c2]; rintro e w4 ⟨rfl, hd⟩; have hb := hd.below; clear hd; clear cP0 cP1 cP2; have B_4 := Aside0.mk (below_step B_3.out hb); have P_4 := Aside0.mk (blk_below P_3.out hb); clear P_3; have cP0 := (blk_cell P_4.out 0).trans rfl; have cP1 := (blk_cell P_4.out 1).trans rfl; have cP2 := (blk_cell P_4.out 2).trans rfl; clear hb))
   go_ret
   exact ⟨rfl, B_4.out⟩
  have c2 := decide_eq_false d2
  rw [if_neg d2]
  clear d2
  cases c3 : rch F X y
  ·rw [if_pos rfl]
   go_enter Try.func42, Try.ntmps42
   go_wp2_with (first | ((with_reducible refine gate_dst (N := 9) rfl ?_); refine box_event ?hg (N := 9) ?hd (cs := #[.int .u32 (X : Int), .int .u32 (B : Int), .bool H]) (t := 32) ?hr ?_; (case hd => rfl); (case hg => rfl); (case hr => first | (go_simp; done) | (go_simp; rfl)); intro gp hg_ w1 hm_ hb_; have GP := Aside0.mk (show w.heap.size ≤ gp by rw [hg_]; exact B_0.out.size); have B_1 := Aside0.mk (below_step B_0.out hb_); have P_1 := Aside0.mk (hm_); have cP0 := (blk_cell P_1.out 0).trans rfl; have cP1 := (blk_cell P_1.out 1).trans rfl; have cP2 := (blk_cell P_1.out 2).trans rfl; clear hm_ hb_ hg_) | (go_at_call 44; (with_reducible refine (IsNaN_calls y HY.out _).mono ?_); rw [c0]; rintro e w2 ⟨rfl, hb⟩; clear cP0 cP1 cP2; have B_2 := Aside0.mk (below_step B_1.out hb); have P_2 := Aside0.mk (blk_below P_1.out hb); clear P_1; have cP0 := (blk_cell P_2.out 0).trans rfl; have cP1 := (blk_cell P_2.out 1).trans rfl; have cP2 := (blk_cell P_2.out 2).trans rfl; clear hb) | (go_at_call 59; (with_reducible refine (Before_calls X lo HX.out HLO.out _).mono ?_); rw [c1]; rintro e w3 ⟨rfl, hd⟩; have hb := hd.below; clear hd; clear cP0 cP1 cP2; have B_3 := Aside0.mk (below_step B_2.out hb); have P_3 := Aside0.mk (blk_below P_2.out hb); clear P_2; have cP0 := (blk_cell P_3.out 0).trans rfl; have cP1 := (blk_cell P_3.out 1).trans rfl; have cP2 := (blk_cell P_3.out 2).trans rfl; clear hb) | (go_at_call 59; (with_reducible refine (Before_calls hi X HHI.out HX.out _).mono ?_); rw [c2]; rintro e w4 ⟨rfl, hd⟩; have hb := hd.below; clear hd; clear cP0 cP1 cP2; have B_4 := Aside0.mk (below_step B_3.out hb); have P_4 := Aside0.mk (blk_below P_3.out hb); clear P_3; have cP0 := (blk_cell P_4.out 0).trans rfl; have cP1 := (blk_cell P_4.out 1).trans rfl; have cP2 := (blk_cell P_4.out 2).trans rfl; clear hb) | (go_at_call 60; (with_reducible refine (reachesh_calls g X y F _ HX.out HY.out HF.out (fun W2 x hx h2 => HA.out W2 x hx (B_4.out.trans (h2.mono B_4.out.size)))).mono ?_); rw [c3]; rintro e w5 ⟨rfl, hb⟩; clear cP0 cP1 cP2; have B_5 := Aside0.mk (below_step B_4.out hb); have P_5 := Aside0.mk (blk_below P_4.out hb); clear P_4; have cP0 := (blk_cell P_5.out 0).trans rfl; have cP1 := (blk_cell P_5.out 1).trans rfl; have cP2 := (blk_cell P_5.out 2).trans rfl; clear hb))
   go_ret
   exact ⟨rfl, B_5.out⟩
  rw [if_neg (show ¬ (true = false) by decide)]
  have main : ∀ b : Bool, ((X : Int) != (lo : Int)) = b → decide (X ≠ lo) = b → Calls Try.prog 42 #[.iface 48 (.pointer (some ⟨g, 0, none⟩)), .int .u32 (lo : Int), .int .u32 (hi : Int), .int .u32 (y : Int), .agg #[.int .u32 (X : Int), .int .u32 (B : Int), .bool H]] w fun e w' => e = .returned (.bool (if H ≠ decide (X ≠ lo) then false
 else if H = false then decide (B = 0) else decide (kf X ≠ 0) && (decide (B = (if kf X = 0 then 0 else fk (kf X - 1))) && !rch F (if kf X = 0 then 0 else fk (kf X - 1)) y))) ∧ Below w.heap.size w w' := by
     intro b e1 e2
     rw [e2]
     clear e2
     cases b <;> cases H
     ·rw [if_neg (show ¬ (false ≠ false) from fun h => h rfl), if_pos rfl]
      have e4 : ((B : Int) == 0) = decide (B = 0) := by rw [Bool.eq_iff_iff, beq_iff_eq, decide_eq_true_iff]; omega
      rw [← e4]
      clear e4
      go_enter Try.func42, Try.ntmps42
      go_wp2_with (first | ((with_reducible refine gate_dst (N := 9) rfl ?_); refine box_event ?hg (N := 9) ?hd (cs := #[.int .u32 (X : Int), .int .u32 (B : Int), .bool false]) (t := 32) ?hr ?_; (case hd => rfl); (case hg => rfl); (case hr => first | (go_simp; done) | (go_simp; rfl)); intro gp hg_ w1 hm_ hb_; have GP := Aside0.mk (show w.heap.size ≤ gp by rw [hg_]; exact B_0.out.size); have B_1 := Aside0.mk (below_step B_0.out hb_); have P_1 := Aside0.mk (hm_); have cP0 := (blk_cell P_1.out 0).trans rfl; have cP1 := (blk_cell P_1.out 1).trans rfl; have cP2 := (blk_cell P_1.out 2).trans rfl; clear hm_ hb_ hg_) | (go_at_call 44; (with_reducible refine (IsNaN_calls y HY.out _).mono ?_); rw [c0]; rintro e w2 ⟨rfl, hb⟩; clear cP0 cP1 cP2; have B_2 := Aside0.mk (below_step B_1.out hb); have P_2 := Aside0.mk (blk_below P_1.out hb); clear P_1; have cP0 := (blk_cell P_2.out 0).trans rfl; have cP1 := (blk_cell P_2.out 1).trans rfl; have cP2 := (blk_cell P_2.out 2).trans rfl; clear hb) | (go_at_call 59; (with_reducible refine (Before_calls X lo HX.out HLO.out _).mono ?_); rw [c1]; rintro e w3 ⟨rfl, hd⟩; have hb := hd.below; clear hd; clear cP0 cP1 cP2; have B_3 := Aside0.mk (below_step B_2.out hb); have P_3 := Aside0.mk (blk_below P_2.out hb); clear P_2; have cP0 := (blk_cell P_3.out 0).trans rfl; have cP1 := (blk_cell P_3.out 1).trans rfl; have cP2 := (blk_cell P_3.out 2).trans rfl; clear hb) | (go_at_call 59; (with_reducible refine (Before_calls hi X HHI.out HX.out _).mono ?_); rw [c2]; rintro e w4 ⟨rfl, hd⟩; have hb := hd.below; clear hd; clear cP0 cP1 cP2; have B_4 := Aside0.mk (below_step B_3.out hb); have P_4 := Aside0.mk (blk_below P_3.out hb); clear P_3; have cP0 := (blk_cell P_4.out 0).trans rfl; have cP1 := (blk_cell P_4.out 1).trans rfl; have cP2 := (blk_cell P_4.out 2).trans rfl; clear hb) | (go_at_call 60; (with_reducible refine (reachesh_calls g X y F _ HX.out HY.out HF.out (fun W2 x hx h2 => HA.out W2 x hx (B_4.out.trans (h2.mono B_4.out.size)))).mono ?_); rw [c3]; rintro e w5 ⟨rfl, hb⟩; clear cP0 cP1 cP2; have B_5 := Aside0.mk (below_step B_4.out hb); have P_5 := Aside0.mk (blk_below P_4.out hb); clear P_4; have cP0 := (blk_cell P_5.out 0).trans rfl; have cP1 := (blk_cell P_5.out 1).trans rfl; have cP2 := (blk_cell P_5.out 2).trans rfl; clear hb))
      go_ret
      exact ⟨rfl, B_5.out⟩
     ·rw [if_pos (show true ≠ false by decide)]
      go_enter Try.func42, Try.ntmps42
      go_wp2_with (first | ((with_reducible refine gate_dst (N := 9) rfl ?_); refine box_event ?hg (N := 9) ?hd (cs := #[.int .u32 (X : Int), .int .u32 (B : Int), .bool true]) (t := 32) ?hr ?_; (case hd => rfl); (case hg => rfl); (case hr => first | (go_simp; done) | (go_simp; rfl)); intro gp hg_ w1 hm_ hb_; have GP := Aside0.mk (show w.heap.size ≤ gp by rw [hg_]; exact B_0.out.size); have B_1 := Aside0.mk (below_step B_0.out hb_); have P_1 := Aside0.mk (hm_); have cP0 := (blk_cell P_1.out 0).trans rfl; have cP1 := (blk_cell P_1.out 1).trans rfl; have cP2 := (blk_cell P_1.out 2).trans rfl; clear hm_ hb_ hg_) | (go_at_call 44; (with_reducible refine (IsNaN_calls y HY.out _).mono ?_); rw [c0]; rintro e w2 ⟨rfl, hb⟩; clear cP0 cP1 cP2; have B_2 := Aside0.mk (below_step B_1.out hb); have P_2 := Aside0.mk (blk_below P_1.out hb); clear P_1; have cP0 := (blk_cell P_2.out 0).trans rfl; have cP1 := (blk_cell P_2.out 1).trans rfl; have cP2 := (blk_cell P_2.out 2).trans rfl; clear hb) | (go_at_call 59; (with_reducible refine (Before_calls X lo HX.out HLO.out _).mono ?_); rw [c1]; rintro e w3 ⟨rfl, hd⟩; have hb := hd.below; clear hd; clear cP0 cP1 cP2; have B_3 := Aside0.mk (below_step B_2.out hb); have P_3 := Aside0.mk (blk_below P_2.out hb); clear P_2; have cP0 := (blk_cell P_3.out 0).trans rfl; have cP1 := (blk_cell P_3.out 1).trans rfl; have cP2 := (blk_cell P_3.out 2).trans rfl; clear hb) | (go_at_call 59; (with_reducible refine (Before_calls hi X HHI.out HX.out _).mono ?_); rw [c2]; rintro e w4 ⟨rfl, hd⟩; have hb := hd.below; clear hd; clear cP0 cP1 cP2; have B_4 := Aside0.mk (below_step B_3.out hb); have P_4 := Aside0.mk (blk_below P_3.out hb); clear P_3; have cP0 := (blk_cell P_4.out 0).trans rfl; have cP1 := (blk_cell P_4.out 1).trans rfl; have cP2 := (blk_cell P_4.out 2).trans rfl; clear hb) | (go_at_call 60; (with_reducible refine (reachesh_calls g X y F _ HX.out HY.out HF.out (fun W2 x hx h2 => HA.out W2 x hx (B_4.out.trans (h2.mono B_4.out.size)))).mono ?_); rw [c3]; rintro e w5 ⟨rfl, hb⟩; clear cP0 cP1 cP2; have B_5 := Aside0.mk (below_step B_4.out hb); have P_5 := Aside0.mk (blk_below P_4.out hb); clear P_4; have cP0 := (blk_cell P_5.out 0).trans rfl; have cP1 := (blk_cell P_5.out 1).trans rfl; have cP2 := (blk_cell P_5.out 2).trans rfl; clear hb))
      go_ret
      exact ⟨rfl, B_5.out⟩
     ·rw [if_pos (show false ≠ true by decide)]
      go_enter Try.func42, Try.ntmps42
      go_wp2_with (first | ((with_reducible refine gate_dst (N := 9) rfl ?_); refine box_event ?hg (N := 9) ?hd (cs := #[.int .u32 (X : Int), .int .u32 (B : Int), .bool false]) (t := 32) ?hr ?_; (case hd => rfl); (case hg => rfl); (case hr => first | (go_simp; done) | (go_simp; rfl)); intro gp hg_ w1 hm_ hb_; have GP := Aside0.mk (show w.heap.size ≤ gp by rw [hg_]; exact B_0.out.size); have B_1 := Aside0.mk (below_step B_0.out hb_); have P_1 := Aside0.mk (hm_); have cP0 := (blk_cell P_1.out 0).trans rfl; have cP1 := (blk_cell P_1.out 1).trans rfl; have cP2 := (blk_cell P_1.out 2).trans rfl; clear hm_ hb_ hg_) | (go_at_call 44; (with_reducible refine (IsNaN_calls y HY.out _).mono ?_); rw [c0]; rintro e w2 ⟨rfl, hb⟩; clear cP0 cP1 cP2; have B_2 := Aside0.mk (below_step B_1.out hb); have P_2 := Aside0.mk (blk_below P_1.out hb); clear P_1; have cP0 := (blk_cell P_2.out 0).trans rfl; have cP1 := (blk_cell P_2.out 1).trans rfl; have cP2 := (blk_cell P_2.out 2).trans rfl; clear hb) | (go_at_call 59; (with_reducible refine (Before_calls X lo HX.out HLO.out _).mono ?_); rw [c1]; rintro e w3 ⟨rfl, hd⟩; have hb := hd.below; clear hd; clear cP0 cP1 cP2; have B_3 := Aside0.mk (below_step B_2.out hb); have P_3 := Aside0.mk (blk_below P_2.out hb); clear P_2; have cP0 := (blk_cell P_3.out 0).trans rfl; have cP1 := (blk_cell P_3.out 1).trans rfl; have cP2 := (blk_cell P_3.out 2).trans rfl; clear hb) | (go_at_call 59; (with_reducible refine (Before_calls hi X HHI.out HX.out _).mono ?_); rw [c2]; rintro e w4 ⟨rfl, hd⟩; have hb := hd.below; clear hd; clear cP0 cP1 cP2; have B_4 := Aside0.mk (below_step B_3.out hb); have P_4 := Aside0.mk (blk_below P_3.out hb); clear P_3; have cP0 := (blk_cell P_4.out 0).trans rfl; have cP1 := (blk_cell P_4.out 1).trans rfl; have cP2 := (blk_cell P_4.out 2).trans rfl; clear hb) | (go_at_call 60; (with_reducible refine (reachesh_calls g X y F _ HX.out HY.out HF.out (fun W2 x hx h2 => HA.out W2 x hx (B_4.out.trans (h2.mono B_4.out.size)))).mono ?_); rw [c3]; rintro e w5 ⟨rfl, hb⟩; clear cP0 cP1 cP2; have B_5 := Aside0.mk (below_step B_4.out hb); have P_5 := Aside0.mk (blk_below P_4.out hb); clear P_4; have cP0 := (blk_cell P_5.out 0).trans rfl; have cP1 := (blk_cell P_5.out 1).trans rfl; have cP2 := (blk_cell P_5.out 2).trans rfl; clear hb))
      go_ret
      exact ⟨rfl, B_5.out⟩
     ·rw [if_neg (show ¬ (true ≠ true) from fun h => h rfl), if_neg (show ¬ (true = false) by decide)]
      obtain ⟨q, hq⟩ : ∃ q, (if kf X = 0 then 0 else fk (kf X - 1)) = q := ⟨_, rfl⟩
      have HQ : Aside0 (q < 4294967296) := ⟨by
       rw [← hq]
       have := kf_word HX.out
       split
       ·decide
       ·exact fk_word (by omega)⟩
      have hpv := hq
      rw [hq]
      have e4 : ((B : Int) == (q : Int)) = decide (B = q) := by rw [Bool.eq_iff_iff, beq_iff_eq, decide_eq_true_iff]; omega
      rw [← e4]
      clear e4 hq
      obtain ⟨t1, h1⟩ : ∃ t, decide (kf X ≠ 0) = t := ⟨_, rfl⟩
      obtain ⟨t2, h2⟩ : ∃ t, ((B : Int) == (q : Int)) = t := ⟨_, rfl⟩
      rw [h1, h2]
      cases t1
      ·go_enter Try.func42, Try.ntmps42
       go_wp2_with (first | ((with_reducible refine gate_dst (N := 9) rfl ?_); refine box_event ?hg (N := 9) ?hd (cs := #[.int .u32 (X : Int), .int .u32 (B : Int), .bool true]) (t := 32) ?hr ?_; (case hd => rfl); (case hg => rfl); (case hr => first | (go_simp; done) | (go_simp; rfl)); intro gp hg_ w1 hm_ hb_; have GP := Aside0.mk (show w.heap.size ≤ gp by rw [hg_]; exact B_0.out.size); have B_1 := Aside0.mk (below_step B_0.out hb_); have P_1 := Aside0.mk (hm_); have cP0 := (blk_cell P_1.out 0).trans rfl; have cP1 := (blk_cell P_1.out 1).trans rfl; have cP2 := (blk_cell P_1.out 2).trans rfl; clear hm_ hb_ hg_) | (go_at_call 44; (with_reducible refine (IsNaN_calls y HY.out _).mono ?_); rw [c0]; rintro e w2 ⟨rfl, hb⟩; clear cP0 cP1 cP2; have B_2 := Aside0.mk (below_step B_1.out hb); have P_2 := Aside0.mk (blk_below P_1.out hb); clear P_1; have cP0 := (blk_cell P_2.out 0).trans rfl; have cP1 := (blk_cell P_2.out 1).trans rfl; have cP2 := (blk_cell P_2.out 2).trans rfl; clear hb) | (go_at_call 59; (with_reducible refine (Before_calls X lo HX.out HLO.out _).mono ?_); rw [c1]; rintro e w3 ⟨rfl, hd⟩; have hb := hd.below; clear hd; clear cP0 cP1 cP2; have B_3 := Aside0.mk (below_step B_2.out hb); have P_3 := Aside0.mk (blk_below P_2.out hb); clear P_2; have cP0 := (blk_cell P_3.out 0).trans rfl; have cP1 := (blk_cell P_3.out 1).trans rfl; have cP2 := (blk_cell P_3.out 2).trans rfl; clear hb) | (go_at_call 59; (with_reducible refine (Before_calls hi X HHI.out HX.out _).mono ?_); rw [c2]; rintro e w4 ⟨rfl, hd⟩; have hb := hd.below; clear hd; clear cP0 cP1 cP2; have B_4 := Aside0.mk (below_step B_3.out hb); have P_4 := Aside0.mk (blk_below P_3.out hb); clear P_3; have cP0 := (blk_cell P_4.out 0).trans rfl; have cP1 := (blk_cell P_4.out 1).trans rfl; have cP2 := (blk_cell P_4.out 2).trans rfl; clear hb) | (go_at_call 60; (with_reducible refine (reachesh_calls g X y F _ HX.out HY.out HF.out (fun W2 x hx h2 => HA.out W2 x hx (B_4.out.trans (h2.mono B_4.out.size)))).mono ?_); rw [c3]; rintro e w5 ⟨rfl, hb⟩; clear cP0 cP1 cP2; have B_5 := Aside0.mk (below_step B_4.out hb); have P_5 := Aside0.mk (blk_below P_4.out hb); clear P_4; have cP0 := (blk_cell P_5.out 0).trans rfl; have cP1 := (blk_cell P_5.out 1).trans rfl; have cP2 := (blk_cell P_5.out 2).trans rfl; clear hb) | (go_at_call 58; (with_reducible refine (Prev_calls X HX.out _).mono ?_); rw [hpv]; rintro e w6 ⟨rfl, hd⟩; have hb := hd.below; clear hd; clear cP0 cP1 cP2; have B_6 := Aside0.mk (below_step B_5.out hb); have P_6 := Aside0.mk (blk_below P_5.out hb); clear P_5; have cP0 := (blk_cell P_6.out 0).trans rfl; have cP1 := (blk_cell P_6.out 1).trans rfl; have cP2 := (blk_cell P_6.out 2).trans rfl; clear hb))
       go_ret
       exact ⟨rfl, B_6.out⟩
      cases t2
      ·go_enter Try.func42, Try.ntmps42
       go_wp2_with (first | ((with_reducible refine gate_dst (N := 9) rfl ?_); refine box_event ?hg (N := 9) ?hd (cs := #[.int .u32 (X : Int), .int .u32 (B : Int), .bool true]) (t := 32) ?hr ?_; (case hd => rfl); (case hg => rfl); (case hr => first | (go_simp; done) | (go_simp; rfl)); intro gp hg_ w1 hm_ hb_; have GP := Aside0.mk (show w.heap.size ≤ gp by rw [hg_]; exact B_0.out.size); have B_1 := Aside0.mk (below_step B_0.out hb_); have P_1 := Aside0.mk (hm_); have cP0 := (blk_cell P_1.out 0).trans rfl; have cP1 := (blk_cell P_1.out 1).trans rfl; have cP2 := (blk_cell P_1.out 2).trans rfl; clear hm_ hb_ hg_) | (go_at_call 44; (with_reducible refine (IsNaN_calls y HY.out _).mono ?_); rw [c0]; rintro e w2 ⟨rfl, hb⟩; clear cP0 cP1 cP2; have B_2 := Aside0.mk (below_step B_1.out hb); have P_2 := Aside0.mk (blk_below P_1.out hb); clear P_1; have cP0 := (blk_cell P_2.out 0).trans rfl; have cP1 := (blk_cell P_2.out 1).trans rfl; have cP2 := (blk_cell P_2.out 2).trans rfl; clear hb) | (go_at_call 59; (with_reducible refine (Before_calls X lo HX.out HLO.out _).mono ?_); rw [c1]; rintro e w3 ⟨rfl, hd⟩; have hb := hd.below; clear hd; clear cP0 cP1 cP2; have B_3 := Aside0.mk (below_step B_2.out hb); have P_3 := Aside0.mk (blk_below P_2.out hb); clear P_2; have cP0 := (blk_cell P_3.out 0).trans rfl; have cP1 := (blk_cell P_3.out 1).trans rfl; have cP2 := (blk_cell P_3.out 2).trans rfl; clear hb) | (go_at_call 59; (with_reducible refine (Before_calls hi X HHI.out HX.out _).mono ?_); rw [c2]; rintro e w4 ⟨rfl, hd⟩; have hb := hd.below; clear hd; clear cP0 cP1 cP2; have B_4 := Aside0.mk (below_step B_3.out hb); have P_4 := Aside0.mk (blk_below P_3.out hb); clear P_3; have cP0 := (blk_cell P_4.out 0).trans rfl; have cP1 := (blk_cell P_4.out 1).trans rfl; have cP2 := (blk_cell P_4.out 2).trans rfl; clear hb) | (go_at_call 60; (with_reducible refine (reachesh_calls g X y F _ HX.out HY.out HF.out (fun W2 x hx h2 => HA.out W2 x hx (B_4.out.trans (h2.mono B_4.out.size)))).mono ?_); rw [c3]; rintro e w5 ⟨rfl, hb⟩; clear cP0 cP1 cP2; have B_5 := Aside0.mk (below_step B_4.out hb); have P_5 := Aside0.mk (blk_below P_4.out hb); clear P_4; have cP0 := (blk_cell P_5.out 0).trans rfl; have cP1 := (blk_cell P_5.out 1).trans rfl; have cP2 := (blk_cell P_5.out 2).trans rfl; clear hb) | (go_at_call 58; (with_reducible refine (Prev_calls X HX.out _).mono ?_); rw [hpv]; rintro e w6 ⟨rfl, hd⟩; have hb := hd.below; clear hd; clear cP0 cP1 cP2; have B_6 := Aside0.mk (below_step B_5.out hb); have P_6 := Aside0.mk (blk_below P_5.out hb); clear P_5; have cP0 := (blk_cell P_6.out 0).trans rfl; have cP1 := (blk_cell P_6.out 1).trans rfl; have cP2 := (blk_cell P_6.out 2).trans rfl; clear hb))
       go_ret
       exact ⟨rfl, B_6.out⟩
      cases c5 : rch F q y
      ·go_enter Try.func42, Try.ntmps42
       go_wp2_with (first | ((with_reducible refine gate_dst (N := 9) rfl ?_); refine box_event ?hg (N := 9) ?hd (cs := #[.int .u32 (X : Int), .int .u32 (B : Int), .bool true]) (t := 32) ?hr ?_; (case hd => rfl); (case hg => rfl); (case hr => first | (go_simp; done) | (go_simp; rfl)); intro gp hg_ w1 hm_ hb_; have GP := Aside0.mk (show w.heap.size ≤ gp by rw [hg_]; exact B_0.out.size); have B_1 := Aside0.mk (below_step B_0.out hb_); have P_1 := Aside0.mk (hm_); have cP0 := (blk_cell P_1.out 0).trans rfl; have cP1 := (blk_cell P_1.out 1).trans rfl; have cP2 := (blk_cell P_1.out 2).trans rfl; clear hm_ hb_ hg_) | (go_at_call 44; (with_reducible refine (IsNaN_calls y HY.out _).mono ?_); rw [c0]; rintro e w2 ⟨rfl, hb⟩; clear cP0 cP1 cP2; have B_2 := Aside0.mk (below_step B_1.out hb); have P_2 := Aside0.mk (blk_below P_1.out hb); clear P_1; have cP0 := (blk_cell P_2.out 0).trans rfl; have cP1 := (blk_cell P_2.out 1).trans rfl; have cP2 := (blk_cell P_2.out 2).trans rfl; clear hb) | (go_at_call 59; (with_reducible refine (Before_calls X lo HX.out HLO.out _).mono ?_); rw [c1]; rintro e w3 ⟨rfl, hd⟩; have hb := hd.below; clear hd; clear cP0 cP1 cP2; have B_3 := Aside0.mk (below_step B_2.out hb); have P_3 := Aside0.mk (blk_below P_2.out hb); clear P_2; have cP0 := (blk_cell P_3.out 0).trans rfl; have cP1 := (blk_cell P_3.out 1).trans rfl; have cP2 := (blk_cell P_3.out 2).trans rfl; clear hb) | (go_at_call 59; (with_reducible refine (Before_calls hi X HHI.out HX.out _).mono ?_); rw [c2]; rintro e w4 ⟨rfl, hd⟩; have hb := hd.below; clear hd; clear cP0 cP1 cP2; have B_4 := Aside0.mk (below_step B_3.out hb); have P_4 := Aside0.mk (blk_below P_3.out hb); clear P_3; have cP0 := (blk_cell P_4.out 0).trans rfl; have cP1 := (blk_cell P_4.out 1).trans rfl; have cP2 := (blk_cell P_4.out 2).trans rfl; clear hb) | (go_at_call 60; (with_reducible refine (reachesh_calls g X y F _ HX.out HY.out HF.out (fun W2 x hx h2 => HA.out W2 x hx (B_4.out.trans (h2.mono B_4.out.size)))).mono ?_); rw [c3]; rintro e w5 ⟨rfl, hb⟩; clear cP0 cP1 cP2; have B_5 := Aside0.mk (below_step B_4.out hb); have P_5 := Aside0.mk (blk_below P_4.out hb); clear P_4; have cP0 := (blk_cell P_5.out 0).trans rfl; have cP1 := (blk_cell P_5.out 1).trans rfl; have cP2 := (blk_cell P_5.out 2).trans rfl; clear hb) | (go_at_call 58; (with_reducible refine (Prev_calls X HX.out _).mono ?_); rw [hpv]; rintro e w6 ⟨rfl, hd⟩; have hb := hd.below; clear hd; clear cP0 cP1 cP2; have B_6 := Aside0.mk (below_step B_5.out hb); have P_6 := Aside0.mk (blk_below P_5.out hb); clear P_5; have cP0 := (blk_cell P_6.out 0).trans rfl; have cP1 := (blk_cell P_6.out 1).trans rfl; have cP2 := (blk_cell P_6.out 2).trans rfl; clear hb) | (go_at_call 60; (with_reducible refine (reachesh_calls g q y F _ HQ.out HY.out HF.out (fun W2 x hx h2 => HA.out W2 x hx (B_6.out.trans (h2.mono B_6.out.size)))).mono ?_); rw [c5]; rintro e w7 ⟨rfl, hb⟩; clear cP0 cP1 cP2; have B_7 := Aside0.mk (below_step B_6.out hb); have P_7 := Aside0.mk (blk_below P_6.out hb); clear P_6; have cP0 := (blk_cell P_7.out 0).trans rfl; have cP1 := (blk_cell P_7.out 1).trans rfl; have cP2 := (blk_cell P_7.out 2).trans rfl; clear hb))
       go_ret
       exact ⟨rfl, B_7.out⟩
      ·go_enter Try.func42, Try.ntmps42
       go_wp2_with (first | ((with_reducible refine gate_dst (N := 9) rfl ?_); refine box_event ?hg (N := 9) ?hd (cs := #[.int .u32 (X : Int), .int .u32 (B : Int), .bool true]) (t := 32) ?hr ?_; (case hd => rfl); (case hg => rfl); (case hr => first | (go_simp; done) | (go_simp; rfl)); intro gp hg_ w1 hm_ hb_; have GP := Aside0.mk (show w.heap.size ≤ gp by rw [hg_]; exact B_0.out.size); have B_1 := Aside0.mk (below_step B_0.out hb_); have P_1 := Aside0.mk (hm_); have cP0 := (blk_cell P_1.out 0).trans rfl; have cP1 := (blk_cell P_1.out 1).trans rfl; have cP2 := (blk_cell P_1.out 2).trans rfl; clear hm_ hb_ hg_) | (go_at_call 44; (with_reducible refine (IsNaN_calls y HY.out _).mono ?_); rw [c0]; rintro e w2 ⟨rfl, hb⟩; clear cP0 cP1 cP2; have B_2 := Aside0.mk (below_step B_1.out hb); have P_2 := Aside0.mk (blk_below P_1.out hb); clear P_1; have cP0 := (blk_cell P_2.out 0).trans rfl; have cP1 := (blk_cell P_2.out 1).trans rfl; have cP2 := (blk_cell P_2.out 2).trans rfl; clear hb) | (go_at_call 59; (with_reducible refine (Before_calls X lo HX.out HLO.out _).mono ?_); rw [c1]; rintro e w3 ⟨rfl, hd⟩; have hb := hd.below; clear hd; clear cP0 cP1 cP2; have B_3 := Aside0.mk (below_step B_2.out hb); have P_3 := Aside0.mk (blk_below P_2.out hb); clear P_2; have cP0 := (blk_cell P_3.out 0).trans rfl; have cP1 := (blk_cell P_3.out 1).trans rfl; have cP2 := (blk_cell P_3.out 2).trans rfl; clear hb) | (go_at_call 59; (with_reducible refine (Before_calls hi X HHI.out HX.out _).mono ?_); rw [c2]; rintro e w4 ⟨rfl, hd⟩; have hb := hd.below; clear hd; clear cP0 cP1 cP2; have B_4 := Aside0.mk (below_step B_3.out hb); have P_4 := Aside0.mk (blk_below P_3.out hb); clear P_3; have cP0 := (blk_cell P_4.out 0).trans rfl; have cP1 := (blk_cell P_4.out 1).trans rfl; have cP2 := (blk_cell P_4.out 2).trans rfl; clear hb) | (go_at_call 60; (with_reducible refine (reachesh_calls g X y F _ HX.out HY.out HF.out (fun W2 x hx h2 => HA.out W2 x hx (B_4.out.trans (h2.mono B_4.out.size)))).mono ?_); rw [c3]; rintro e w5 ⟨rfl, hb⟩; clear cP0 cP1 cP2; have B_5 := Aside0.mk (below_step B_4.out hb); have P_5 := Aside0.mk (blk_below P_4.out hb); clear P_4; have cP0 := (blk_cell P_5.out 0).trans rfl; have cP1 := (blk_cell P_5.out 1).trans rfl; have cP2 := (blk_cell P_5.out 2).trans rfl; clear hb) | (go_at_call 58; (with_reducible refine (Prev_calls X HX.out _).mono ?_); rw [hpv]; rintro e w6 ⟨rfl, hd⟩; have hb := hd.below; clear hd; clear cP0 cP1 cP2; have B_6 := Aside0.mk (below_step B_5.out hb); have P_6 := Aside0.mk (blk_below P_5.out hb); clear P_5; have cP0 := (blk_cell P_6.out 0).trans rfl; have cP1 := (blk_cell P_6.out 1).trans rfl; have cP2 := (blk_cell P_6.out 2).trans rfl; clear hb) | (go_at_call 60; (with_reducible refine (reachesh_calls g q y F _ HQ.out HY.out HF.out (fun W2 x hx h2 => HA.out W2 x hx (B_6.out.trans (h2.mono B_6.out.size)))).mono ?_); rw [c5]; rintro e w7 ⟨rfl, hb⟩; clear cP0 cP1 cP2; have B_7 := Aside0.mk (below_step B_6.out hb); have P_7 := Aside0.mk (blk_below P_6.out hb); clear P_6; have cP0 := (blk_cell P_7.out 0).trans rfl; have cP1 := (blk_cell P_7.out 1).trans rfl; have cP2 := (blk_cell P_7.out 2).trans rfl; clear hb))
       go_ret
       exact ⟨rfl, B_7.out⟩
  refine main _ rfl ?_
  by_cases h : X = lo
  ·rw [h, decide_eq_false (fun h => h rfl)]; exact (bne_self_eq_false _).symm
  ·rw [decide_eq_true h]; symm; exact bne_iff_ne.mpr (by omega)
 ·rw [if_pos rfl]
  go_enter Try.func42, Try.ntmps42
  go_wp2_with (first | ((with_reducible refine gate_dst (N := 9) rfl ?_); refine box_event ?hg (N := 9) ?hd (cs := #[.int .u32 (X : Int), .int .u32 (B : Int), .bool H]) (t := 32) ?hr ?_; (case hd => rfl); (case hg => rfl); (case hr => first | (go_simp; done) | (go_simp; rfl)); intro gp hg_ w1 hm_ hb_; have GP := Aside0.mk (show w.heap.size ≤ gp by rw [hg_]; exact B_0.out.size); have B_1 := Aside0.mk (below_step B_0.out hb_); have P_1 := Aside0.mk (hm_); have cP0 := (blk_cell P_1.out 0).trans rfl; have cP1 := (blk_cell P_1.out 1).trans rfl; have cP2 := (blk_cell P_1.out 2).trans rfl; clear hm_ hb_ hg_) | (go_at_call 44; (with_reducible refine (IsNaN_calls y HY.out _).mono ?_); rw [c0]; rintro e w2 ⟨rfl, hb⟩; clear cP0 cP1 cP2; have B_2 := Aside0.mk (below_step B_1.out hb); have P_2 := Aside0.mk (blk_below P_1.out hb); clear P_1; have cP0 := (blk_cell P_2.out 0).trans rfl; have cP1 := (blk_cell P_2.out 1).trans rfl; have cP2 := (blk_cell P_2.out 2).trans rfl; clear hb))
  go_ret
  exact ⟨rfl, B_2.out⟩
end Go.Proofs.Ytkicfaboibfbpaa.A
end
section
set_option linter.unusedVariables false
set_option linter.unusedSimpArgs false
namespace Go.Proofs.Ytkicfaboibfbpaa.A
open Go.RowKit Go.Proofs.YtkicfaboibfbpaaW.PrintWords Go.Proofs.YtkicfaboibfbpaaW.PrintLast Go.Proofs.YtkicfaboibfbpaaW.PrintMore Go.Proofs.Ytkicfaboibfbpaa.PCurveAts
/-- the error of Least -/
def lerr (F : Nat → Nat) (hi y : Nat) : Nat := if noY F hi y = true then 43 else 0
theorem firstc_calls (g lo hi y : Nat) (F : Nat → Nat) (w : World) (hF : Ris F) (hlo : lo < 4294967296) (hhi : hi < 4294967296) (hy : y < 4294967296) (n1 : isnan lo = false) (n2 : isnan hi = false) (hk : kf lo ≤ kf hi) (hA : ∀ (W : World) (x : Nat), x < 4294967296 → Below w.heap.size w W → Calls Try.prog 17 #[.pointer (some ⟨g, 0, none⟩), .int .u32 (x : Int)] W fun e w' => e = .returned (.int .u32 ((F x : Nat) : Int)) ∧ Below W.heap.size W w') :
    Calls Try.prog 41 #[.iface 26 (.pointer (some ⟨g, 0, none⟩)), .int .u32 (lo : Int), .int .u32 (hi : Int), .int .u32 (y : Int)] w fun e w' => e = .returned (.tuple #[.agg #[.int .u32 ((lst F lo hi y).X : Int), .int .u32 ((lst F lo hi y).B : Int), .bool (lst F lo hi y).H], .int .i64 ((lerr F hi y : Nat) : Int)]) ∧ Below w.heap.size w w' := by
 unfold lerr
 cases hno : noY F hi y
 ·rw [if_neg (by decide)]
  have h := hno
  unfold noY at h
  rw [Bool.or_eq_false_iff] at h
  have hw := kf_word hhi
  have hu : ∀ r, Srch (fun i => !lt (F (fk (kf lo + i))) y) (kf hi - kf lo) r → r = lstN F lo hi y := fun r hr => srch_uniq (fun i j hij hj hp => rs_mono hF hlo hhi n1 n2 hk hy h.1 i j hij (Nat.le_of_lt hj) hp) hr (fs_srch _ _)
  have hs := (lst_X hF hlo hhi n1 n2 hk y hno).2.1
  by_cases h0 : lstN F lo hi y = 0
  ·rw [lst_0 hno h0]
   have := first_zeroc g lo hi y F w hlo hhi hy hF.word hA h.1 h.2 hk 0 rfl (Nat.zero_le _) (fun r hr => (hu r hr).trans h0)
   rw [Nat.add_zero, fk_kf' hlo] at this
   exact this
  ·rw [lst_n hno h0]
   exact first_posc g lo hi y F w hlo hhi hy hF.word hA h.1 h.2 hk _ h0 hs hu
 ·rw [if_pos rfl, lst_no hno]
  unfold noY at hno
  cases h0 : isnan y
  ·rw [h0, Bool.false_or] at hno
   exact first_farc g lo hi y F w hlo hhi hy hF.word hA h0 hno
  ·exact first_nanc g lo hi y F w hlo hhi hy hF.word hA h0
theorem firsth_calls (g lo hi y : Nat) (F : Nat → Nat) (w : World) (hF : Ris F) (hlo : lo < 4294967296) (hhi : hi < 4294967296) (hy : y < 4294967296) (n1 : isnan lo = false) (n2 : isnan hi = false) (hk : kf lo ≤ kf hi) (hA : ∀ (W : World) (x : Nat), x < 4294967296 → Below w.heap.size w W → Calls Try.prog 22 #[.pointer (some ⟨g, 0, none⟩), .int .u32 (x : Int)] W fun e w' => e = .returned (.int .u32 ((F x : Nat) : Int)) ∧ Below W.heap.size W w') :
    Calls Try.prog 41 #[.iface 48 (.pointer (some ⟨g, 0, none⟩)), .int .u32 (lo : Int), .int .u32 (hi : Int), .int .u32 (y : Int)] w fun e w' => e = .returned (.tuple #[.agg #[.int .u32 ((lst F lo hi y).X : Int), .int .u32 ((lst F lo hi y).B : Int), .bool (lst F lo hi y).H], .int .i64 ((lerr F hi y : Nat) : Int)]) ∧ Below w.heap.size w w' := by
 unfold lerr
 cases hno : noY F hi y
 ·rw [if_neg (by decide)]
  have h := hno
  unfold noY at h
  rw [Bool.or_eq_false_iff] at h
  have hw := kf_word hhi
  have hu : ∀ r, Srch (fun i => !lt (F (fk (kf lo + i))) y) (kf hi - kf lo) r → r = lstN F lo hi y := fun r hr => srch_uniq (fun i j hij hj hp => rs_mono hF hlo hhi n1 n2 hk hy h.1 i j hij (Nat.le_of_lt hj) hp) hr (fs_srch _ _)
  have hs := (lst_X hF hlo hhi n1 n2 hk y hno).2.1
  by_cases h0 : lstN F lo hi y = 0
  ·rw [lst_0 hno h0]
   have := first_zeroh g lo hi y F w hlo hhi hy hF.word hA h.1 h.2 hk 0 rfl (Nat.zero_le _) (fun r hr => (hu r hr).trans h0)
   rw [Nat.add_zero, fk_kf' hlo] at this
   exact this
  ·rw [lst_n hno h0]
   exact first_posh g lo hi y F w hlo hhi hy hF.word hA h.1 h.2 hk _ h0 hs hu
 ·rw [if_pos rfl, lst_no hno]
  unfold noY at hno
  cases h0 : isnan y
  ·rw [h0, Bool.false_or] at hno
   exact first_farh g lo hi y F w hlo hhi hy hF.word hA h0 hno
  ·exact first_nanh g lo hi y F w hlo hhi hy hF.word hA h0
/-- the ends of a curve -/
def lo0 (l : List (Nat × Nat)) : Nat := (gk l 0).1
def hi0 (l : List (Nat × Nat)) : Nat := (gk l (l.length - 1)).1
section
variable {l : List (Nat × Nat)} (hv : Val l)
include hv
theorem ends_ok : lo0 l < 4294967296 ∧ hi0 l < 4294967296 ∧ isnan (lo0 l) = false ∧ isnan (hi0 l) = false ∧ kf (lo0 l) ≤ kf (hi0 l) := by
 have two := hv.two
 have h := lt_pz (hv.mono (i := 0) (j := l.length - 1) (by omega) (by omega))
 refine ⟨(gk_ok hv.ok 0).1, (gk_ok hv.ok _).1, h.1, h.2.1, ?_⟩
 have a := (gk_ok hv.ok 0).1
 have b := (gk_ok hv.ok (l.length - 1)).1
 have h2 := h.2.2
 unfold lo0 hi0 kf
 unfold pz at h2
 generalize (gk l 0).1 = u at *
 generalize (gk l (l.length - 1)).1 = v at *
 clear h
 by_cases c1 : u < 2147483648
 ·by_cases c2 : v < 2147483648
  ·rw [if_pos c1, if_pos c2] at *; omega
  ·rw [if_pos c1, if_neg c2] at *; omega
 ·by_cases c2 : v < 2147483648
  ·rw [if_neg c1, if_pos c2] at *; omega
  ·rw [if_neg c1, if_neg c2] at *; omega
end
set_option maxHeartbeats 2000000 in
theorem Leastc_calls (g : Nat) (A : Option Addr) (c : Nat) (l : List (Nat × Nat)) (hv : Val l) (w : World) (hC : CvB w g A c l) (y : Nat) (hy : y < 4294967296) :
    Calls Try.prog 13 #[.pointer (some ⟨g, 0, none⟩), .int .u32 (y : Int)] w fun e w' => e = .returned (.tuple #[.agg #[.int .u32 ((lst (atP l) (lo0 l) (hi0 l) y).X : Int), .int .u32 ((lst (atP l) (lo0 l) (hi0 l) y).B : Int), .bool (lst (atP l) (lo0 l) (hi0 l) y).H], .int .i64 ((lerr (atP l) (hi0 l) y : Nat) : Int)]) ∧ Below w.heap.size w w' := by
 have RF := ris_at hv
 have EN := ends_ok hv
 have HC : Aside0 (CvB w g A c l) := ⟨hC⟩
 have HV := Aside0.mk hv
 obtain ⟨F, hF⟩ : ∃ F, atP l = F := ⟨_, rfl⟩
 obtain ⟨lo, hlo⟩ : ∃ u, lo0 l = u := ⟨_, rfl⟩
 obtain ⟨hi, hhi⟩ : ∃ u, hi0 l = u := ⟨_, rfl⟩
 rw [hF, hlo, hhi]
 rw [hF] at RF
 rw [hlo, hhi] at EN
 obtain ⟨⟨pX, pB, pH⟩, hp⟩ : ∃ p, lst F lo hi y = p := ⟨_, rfl⟩
 obtain ⟨pe, hpe⟩ : ∃ n, lerr F hi y = n := ⟨_, rfl⟩
 rw [hp, hpe]
 have HFI : Aside0 (∀ W, Below w.heap.size w W → Calls Try.prog 41 #[.iface 26 (.pointer (some ⟨g, 0, none⟩)), .int .u32 (lo : Int), .int .u32 (hi : Int), .int .u32 (y : Int)] W fun e w' => e = .returned (.tuple #[.agg #[.int .u32 (pX : Int), .int .u32 (pB : Int), .bool pH], .int .i64 (pe : Int)]) ∧ Below W.heap.size W w') := ⟨fun W hb => by
  have := firstc_calls g lo hi y F W RF EN.1 EN.2.1 hy EN.2.2.1 EN.2.2.2.1 EN.2.2.2.2 (fun W2 x hx h2 => by rw [← hF]; exact At_calls g A c l hv x hx W2 ((hC.below hb).below h2))
  rw [hp, hpe] at this
  exact this⟩
 have B_0 : Aside0 (Below w.heap.size w w) := ⟨Below.refl _ _⟩
 have HLO := Aside0.mk hlo
 have HHI := Aside0.mk hhi
 unfold lo0 at HLO
 unfold hi0 at HHI
 clear hC hv hF hlo hhi hy RF EN hp hpe
 go_enter Try.func13, Try.ntmps13
 go_wp2_with (first | ((with_reducible refine gate_dst (N := 4) rfl ?_); refine box_event ?hg (N := 4) ?hd (cs := #[.int .u32 0, .int .u32 0, .bool false]) (t := 32) ?hr ?_; (case hd => rfl); (case hg => rfl); (case hr => first | (go_simp; done) | (go_simp; rfl)); intro gr hg_ w1 hm_ hb_; have GR := Aside0.mk (show w.heap.size ≤ gr by rw [hg_]; exact B_0.out.size); have B_1 := Aside0.mk (below_step B_0.out hb_); have R_1 := Aside0.mk (hm_); clear hm_ hb_ hg_) | (go_at_call 40; (with_reducible refine (ends_calls g A c l HV.out _ (HC.out.below B_1.out)).mono ?_); rw [HLO.out, HHI.out]; rintro e w2 ⟨rfl, hb⟩; have B_2 := Aside0.mk (below_step B_1.out hb); have R_2 := Aside0.mk (blk_below R_1.out hb); clear R_1; clear hb) | (go_at_call 41; (with_reducible refine (HFI.out _ B_2.out).mono ?_); rintro e w3 ⟨rfl, hb⟩; have B_3 := Aside0.mk (below_step B_2.out hb); have R_3 := Aside0.mk (blk_below R_2.out hb); clear R_2; clear hb) | ((with_reducible refine gate_store (p := 4) rfl ?_); refine store_event rfl rfl rfl gr #[.int .u32 (pX : Int), .int .u32 (pB : Int), .bool pH] _ 32 rfl rfl R_3.out size32 rfl (by simp [Value.oneCell']) ?_; intro w4 hm_ hst_ hbl_; have B_4 := Aside0.mk (B_3.out.trans (hbl_ _ GR.out)); have R_4 := Aside0.mk (hm_); clear R_3 hm_ hst_ hbl_))
 refine bodyPost_ret (results_ct rfl _ _ gr 32 #[.int .u32 (pX : Int), .int .u32 (pB : Int), .bool pH] (0, 0) _ rfl R_4.out Try.underlying32 rfl (by kernel_rfl)) rfl ?_
 exact ⟨rfl, B_4.out⟩
set_option maxHeartbeats 2000000 in
theorem Checkc_calls (g : Nat) (A : Option Addr) (c : Nat) (l : List (Nat × Nat)) (hv : Val l) (w : World) (hC : CvB w g A c l) (y X B : Nat) (H : Bool) (hy : y < 4294967296) (hX : X < 4294967296) :
    Calls Try.prog 14 #[.pointer (some ⟨g, 0, none⟩), .int .u32 (y : Int), .agg #[.int .u32 (X : Int), .int .u32 (B : Int), .bool H]] w fun e w' => e = .returned (.bool (ckP (atP l) (lo0 l) (hi0 l) y ⟨X, B, H⟩)) ∧ Below w.heap.size w w' := by
 have RF := ris_at hv
 have EN := ends_ok hv
 have HC : Aside0 (CvB w g A c l) := ⟨hC⟩
 have HV := Aside0.mk hv
 obtain ⟨F, hF⟩ : ∃ F, atP l = F := ⟨_, rfl⟩
 obtain ⟨lo, hlo⟩ : ∃ u, lo0 l = u := ⟨_, rfl⟩
 obtain ⟨hi, hhi⟩ : ∃ u, hi0 l = u := ⟨_, rfl⟩
 rw [hF, hlo, hhi]
 rw [hF] at RF
 rw [hlo, hhi] at EN
 have HFI : Aside0 (∀ W, Below w.heap.size w W → Calls Try.prog 42 #[.iface 26 (.pointer (some ⟨g, 0, none⟩)), .int .u32 (lo : Int), .int .u32 (hi : Int), .int .u32 (y : Int), .agg #[.int .u32 (X : Int), .int .u32 (B : Int), .bool H]] W fun e w' => e = .returned (.bool (ckP F lo hi y ⟨X, B, H⟩)) ∧ Below W.heap.size W w') := ⟨fun W hb => by
  exact provedc_calls g lo hi y X B H F W EN.1 EN.2.1 hy hX RF.word (fun W2 x hx h2 => by rw [← hF]; exact At_calls g A c l hv x hx W2 ((hC.below hb).below h2))⟩
 have B_0 : Aside0 (Below w.heap.size w w) := ⟨Below.refl _ _⟩
 have HLO := Aside0.mk hlo
 have HHI := Aside0.mk hhi
 unfold lo0 at HLO
 unfold hi0 at HHI
 clear hC hv hF hlo hhi hy hX RF EN
 go_enter Try.func14, Try.ntmps14
 go_wp2_with (first | ((with_reducible refine gate_dst (N := 5) rfl ?_); refine box_event ?hg (N := 5) ?hd (cs := #[.int .u32 (X : Int), .int .u32 (B : Int), .bool H]) (t := 32) ?hr ?_; (case hd => rfl); (case hg => rfl); (case hr => first | (go_simp; done) | (go_simp; rfl)); intro gq hg_ w1 hm_ hb_; have GQ := Aside0.mk (show w.heap.size ≤ gq by rw [hg_]; exact B_0.out.size); have B_1 := Aside0.mk (below_step B_0.out hb_); have Q_1 := Aside0.mk (hm_); clear hm_ hb_ hg_) | (go_at_call 40; (with_reducible refine (ends_calls g A c l HV.out _ (HC.out.below B_1.out)).mono ?_); rw [HLO.out, HHI.out]; rintro e w2 ⟨rfl, hb⟩; have B_2 := Aside0.mk (below_step B_1.out hb); have Q_2 := Aside0.mk (blk_below Q_1.out hb); clear Q_1; clear hb) | ((with_reducible refine gate_dst (N := 19) rfl ?_); refine Kd.event_run rfl (v := .agg #[.int .u32 (X : Int), .int .u32 (B : Int), .bool H]) (w1 := w2) ?hr ?_; (case hr => exact load32 (by rfl) rfl (Q_2.out))) | (go_at_call 42; (with_reducible refine (HFI.out _ B_2.out).mono ?_); rintro e w3 ⟨rfl, hb⟩; have B_3 := Aside0.mk (below_step B_2.out hb); have Q_3 := Aside0.mk (blk_below Q_2.out hb); clear Q_2; clear hb))
 go_ret
 exact ⟨rfl, B_3.out⟩
end Go.Proofs.Ytkicfaboibfbpaa.A
end
section
set_option linter.unusedVariables false
set_option linter.unusedSimpArgs false
namespace Go.Proofs.Ytkicfaboibfbpaa.A
open Go.RowKit Go.Proofs.YtkicfaboibfbpaaW.PrintWords Go.Proofs.YtkicfaboibfbpaaW.PrintLast Go.Proofs.YtkicfaboibfbpaaW.PrintMore Go.Proofs.Ytkicfaboibfbpaa.PCurveAts
/-- a row of pointers to curves -/
def pk : Kd Nat := Kd.scalar (fun g : Nat => .pointer (some ⟨g, 0, none⟩)) (fun _ => rfl)
theorem info26 : (Try.prog.info? 26).map (fun i => (i.zero, i.size, i.bytes)) = some (some (.pointer none), 1, 8) := by kernel_rfl
theorem pk_at {w : World} {A : Option Addr} {gs : List Nat} (h : pk.C w A gs.length gs) (i : Nat) (hi : i < gs.length) : ∃ ad, A = some ad ∧ w.cell? (ad.add i) = some (.pointer (some ⟨gs.getD i 0, 0, none⟩)) := by
 obtain ⟨ad, cs, hA, hl, hK, hc⟩ := Kd.C_get h 0 (i : Int) (by omega) (by omega)
 rw [Int.toNat_natCast] at hK hc
 have hK' : cs = [.pointer (some ⟨gs.getD i 0, 0, none⟩)] := hK
 have := hc 0 _ (by rw [hK']; rfl)
 exact ⟨ad, hA, by simpa [pk, Kd.scalar] using this⟩
/-- the curves of a row -/
def Cvs (w : World) (gs : List Nat) (ls : List (List (Nat × Nat))) : Prop := gs.length = ls.length ∧ ∀ i, i < gs.length → ∃ A c, CvB w (gs.getD i 0) A c (ls.getD i [])
theorem Cvs.below {w w' : World} {gs : List Nat} {ls : List (List (Nat × Nat))} (h : Cvs w gs ls) (hb : Below w.heap.size w w') : Cvs w' gs ls := ⟨h.1, fun i hi => by obtain ⟨A, c, h1⟩ := h.2 i hi; exact ⟨A, c, h1.below hb⟩⟩
/-- a chain in memory -/
def ChB (w : World) (gc : Nat) (gs : List Nat) (ls : List (List (Nat × Nat))) : Prop := (∃ A c, w.heap[gc]? = some (.cells #[.slice A gs.length c] 83 (0, 0)) ∧ gs.length ≤ c ∧ pk.C w A gs.length gs) ∧ Cvs w gs ls
theorem ChB.below {w w' : World} {gc : Nat} {gs : List Nat} {ls : List (List (Nat × Nat))} (h : ChB w gc gs ls) (hb : Below w.heap.size w w') : ChB w' gc gs ls := by
 obtain ⟨⟨A, c, h1, h2, h3⟩, h4⟩ := h
 exact ⟨⟨A, c, blk_below h1 hb, h2, Kd.C_below h3 hb⟩, h4.below hb⟩
theorem pk_made (w : World) : pk.R 26 (w.alloc (.cells #[] 26 (0, 0))) w.heap.size (fun _ => True) (.slice (some ⟨w.heap.size, 0, none⟩) 0 0) [] :=
 ⟨fun _ _ => trivial, [], World.ownsRow_made w #[] 0 (Nat.le_refl _) (Nat.zero_le _) (by simp), Reps.none _ _⟩
set_option maxHeartbeats 2000000 in
theorem Join_bad (A : Option Addr) (c n : Nat) (h : n = 0 ∨ 8 < n) (hn : n < 4611686018427387904) (w : World) :
    Calls Try.prog 32 #[.slice A n c] w fun e w' => e = .returned (.tuple #[.pointer none, .int .i64 40]) ∧ Below w.heap.size w w' := by
 by_cases h0 : n = 0
 ·subst h0
  clear h
  go_enter Try.func32, Try.ntmps32
  go_wp2
  go_ret2
  exact ⟨rfl, Below.refl _ _⟩
 ·have d1 : ((n : Int) == 0) = false := by rw [beq_eq_false_iff_ne]; omega
  have d1' : decide ((n : Int) = 0) = false := decide_eq_false (by omega)
  have d2 : decide ((n : Int) > 8) = true := decide_eq_true (by omega)
  have d3 : (8 < n) = True := eq_true (by omega)
  have d4 : (n = 0) = False := eq_false h0
  clear h h0
  go_enter Try.func32, Try.ntmps32
  go_wp2
  go_ret2
  exact ⟨rfl, Below.refl _ _⟩
theorem atA_drop (ls : List (List (Nat × Nat))) {i : Nat} (h : i < ls.length) (x : Nat) : atA (ls.drop i) x = atA (ls.drop (i + 1)) (atP (ls.getD i []) x) := by
 rw [drop_cons ls [] h]; rfl
theorem getD_mem {α : Type} {ls : List α} {i : Nat} (h : i < ls.length) (d : α) : ls.getD i d ∈ ls := by
 rw [List.getD_eq_getElem?_getD, List.getElem?_eq_getElem h]; exact List.getElem_mem h
set_option maxHeartbeats 4000000 in
theorem ChainAt_calls (gc : Nat) (gs : List Nat) (ls : List (List (Nat × Nat))) (hv : ∀ l ∈ ls, Val l) (h8 : ls.length ≤ 8) (h0 : 1 ≤ ls.length) (x : Nat) (hx : x < 4294967296) (w : World) (hC : ChB w gc gs ls) :
    Calls Try.prog 22 #[.pointer (some ⟨gc, 0, none⟩), .int .u32 (x : Int)] w fun e w' => e = .returned (.int .u32 ((atA ls x : Nat) : Int)) ∧ Below w.heap.size w w' := by
 obtain ⟨⟨A, c, hM, hc, hK⟩, hL⟩ := hC
 obtain ⟨ad, rfl, _⟩ := pk_at hK 0 (by rw [hL.1]; omega)
 obtain ⟨n, hn⟩ : ∃ n, gs.length = n := ⟨_, rfl⟩
 have hnl : n = ls.length := by rw [← hn]; exact hL.1
 rw [hn] at hM hc
 have gs0 := (blk_cell hM 0).trans rfl
 have HV := Aside0.mk hv
 have HK : Aside0 (pk.C w (some ad) gs.length gs) := ⟨hK⟩
 have HL := Aside0.mk hL
 have HN := Aside0.mk hn
 have HX := Aside0.mk hx
 have HNL := Aside0.mk hnl
 have H8 : Aside0 (n ≤ 8) := ⟨by omega⟩
 clear hM hc hK hL hv hx hn hnl h8 h0
 go_enter Try.func22, Try.ntmps22
 go_wp2
 go_loopg [1, 12] n (fun kx s1 s12 wr => ∃ (i xi : Nat), s1 = .int .u32 (xi : Int) ∧ s12 = .int .i64 (i : Int) ∧ i ≤ n ∧ n - i ≤ kx ∧ Aside0 (Below w.heap.size w wr) ∧ Aside0 (xi < 4294967296 ∧ atA (ls.drop i) xi = atA ls x))
 case atStart => exact ⟨0, x, rfl, rfl, Nat.zero_le _, by omega, ⟨Below.refl _ _⟩, ⟨HX.out, rfl⟩⟩
 case round =>
  obtain ⟨i, xi, rfl, rfl, i1, i2, HB, I⟩ := hrel
  by_cases hin : i < n
  ·have e1 : decide ((0 : Int) ≤ (i : Int)) = true := decide_eq_true (by omega)
   have e2 : decide ((i : Int) < (n : Int)) = true := decide_eq_true (by omega)
   have e5 : ((0 : Int) ≤ (i : Int)) = True := eq_true (by omega)
   have e6 : ((i : Int) < (n : Int)) = True := eq_true (by omega)
   have e7 : (i < n) = True := eq_true (by omega)
   have h8 := H8.out
   have wi : IntKind.i64.wrap ((i : Int) + 1) = ((i + 1 : Nat) : Int) := by rw [show IntKind.i64.wrap ((i : Int) + 1) = wrap64 ((i : Int) + 1) from i64_w _, w64 (by omega) (by omega)]; omega
   have hil : i < ls.length := by have := HNL.out; omega
   obtain ⟨ad2, e, hp⟩ := pk_at (Kd.C_below HK.out HB.out) i (by have := HN.out; omega)
   obtain rfl := Option.some.inj e
   obtain ⟨Ai, ci, hci⟩ := HL.out.2 i (by have := HN.out; omega)
   obtain ⟨gi, hgi⟩ : ∃ g, gs.getD i 0 = g := ⟨_, rfl⟩
   rw [hgi] at hp hci
   have HC : Aside0 (CvB wr gi Ai ci (ls.getD i [])) := ⟨hci.below HB.out⟩
   have HVI : Aside0 (Val (ls.getD i [])) := ⟨HV.out _ (getD_mem hil _)⟩
   have IX : Aside0 (xi < 4294967296) := ⟨I.out.1⟩
   have IE : Aside0 (atA (ls.drop (i + 1)) (atP (ls.getD i []) xi) = atA ls x) := ⟨by rw [← atA_drop ls hil]; exact I.out.2⟩
   have HIN := Aside0.mk hin
   clear hil hgi hci hin I h8 e
   go_wp2_with (go_at_call 17; (with_reducible refine (At_calls gi Ai ci _ HVI.out xi IX.out _ HC.out).mono ?_); rintro e w5 ⟨rfl, hb⟩; have B5 := Aside0.mk (below_step HB.out hb); clear hb)
   go_roundg (n - (i + 1))
   case measure => have := HIN.out; omega
   case rel => exact ⟨i + 1, _, rfl, by first | rfl | (congr 1; omega), HIN.out, by omega, ⟨B5.out⟩, ⟨at_lt HVI.out IX.out, IE.out⟩⟩
  ·obtain rfl : i = n := by omega
   have dd : decide ((i : Int) < (i : Int)) = false := decide_eq_false (by omega)
   have hE := I.out.2
   rw [List.drop_eq_nil_of_le (by have := HNL.out; omega)] at hE
   have IE : Aside0 (xi = atA ls x) := ⟨hE⟩
   clear hE hin
   go_wp2
   go_ret
   exact ⟨by rw [← IE.out]; rfl, HB.out⟩
set_option maxHeartbeats 2000000 in
theorem Leasth_calls (g : Nat) (gs : List Nat) (ls : List (List (Nat × Nat))) (hv : ∀ l ∈ ls, Val l) (h8 : ls.length ≤ 8) (h0 : 1 ≤ ls.length) (w : World) (hC : ChB w g gs ls) (y : Nat) (hy : y < 4294967296) :
    Calls Try.prog 27 #[.pointer (some ⟨g, 0, none⟩), .int .u32 (y : Int)] w fun e w' => e = .returned (.tuple #[.agg #[.int .u32 ((lst (atA ls) (lo0 (ls.getD 0 [])) (hi0 (ls.getD 0 [])) y).X : Int), .int .u32 ((lst (atA ls) (lo0 (ls.getD 0 [])) (hi0 (ls.getD 0 [])) y).B : Int), .bool (lst (atA ls) (lo0 (ls.getD 0 [])) (hi0 (ls.getD 0 [])) y).H], .int .i64 ((lerr (atA ls) (hi0 (ls.getD 0 [])) y : Nat) : Int)]) ∧ Below w.heap.size w w' := by
 have RF := ris_all ls hv
 have hv0 := hv _ (getD_mem (show 0 < ls.length by omega) [])
 have EN := ends_ok hv0
 have HC : Aside0 (ChB w g gs ls) := ⟨hC⟩
 obtain ⟨⟨A, c, hM, hc, hK⟩, hL⟩ := hC
 obtain ⟨ad, rfl, hp0⟩ := pk_at hK 0 (by rw [hL.1]; omega)
 obtain ⟨A0, c0, hC0⟩ := hL.2 0 (by rw [hL.1]; omega)
 obtain ⟨n, hn⟩ : ∃ n, gs.length = n := ⟨_, rfl⟩
 have hnl : n = ls.length := by rw [← hn]; exact hL.1
 rw [hn] at hM hc
 obtain ⟨gi, hgi⟩ : ∃ u, gs.getD 0 0 = u := ⟨_, rfl⟩
 obtain ⟨l0, hl0⟩ : ∃ u, ls.getD 0 [] = u := ⟨_, rfl⟩
 rw [hgi] at hp0 hC0
 rw [hl0] at hC0 hv0 EN ⊢
 rw [Addr.add_zero'] at hp0
 have d3 : decide ((0 : Int) < (n : Int)) = true := decide_eq_true (by omega)
 have d4 : (0 < n) = True := eq_true (by omega)
 have HCC : Aside0 (CvB w gi A0 c0 l0) := ⟨hC0⟩
 have HV := Aside0.mk hv0
 have HM := Aside0.mk hM
 have HP := Aside0.mk hp0
 obtain ⟨F, hF⟩ : ∃ F, atA ls = F := ⟨_, rfl⟩
 obtain ⟨lo, hlo⟩ : ∃ u, lo0 l0 = u := ⟨_, rfl⟩
 obtain ⟨hi, hhi⟩ : ∃ u, hi0 l0 = u := ⟨_, rfl⟩
 rw [hF, hlo, hhi]
 rw [hF] at RF
 rw [hlo, hhi] at EN
 obtain ⟨⟨pX, pB, pH⟩, hp⟩ : ∃ p, lst F lo hi y = p := ⟨_, rfl⟩
 obtain ⟨pe, hpe⟩ : ∃ n, lerr F hi y = n := ⟨_, rfl⟩
 rw [hp, hpe]
 have HFI : Aside0 (∀ W, Below w.heap.size w W → Calls Try.prog 41 #[.iface 48 (.pointer (some ⟨g, 0, none⟩)), .int .u32 (lo : Int), .int .u32 (hi : Int), .int .u32 (y : Int)] W fun e w' => e = .returned (.tuple #[.agg #[.int .u32 (pX : Int), .int .u32 (pB : Int), .bool pH], .int .i64 (pe : Int)]) ∧ Below W.heap.size W w') := ⟨fun W hb => by
  have := firsth_calls g lo hi y F W RF EN.1 EN.2.1 hy EN.2.2.1 EN.2.2.2.1 EN.2.2.2.2 (fun W2 x hx h2 => by rw [← hF]; exact ChainAt_calls g gs ls hv h8 h0 x hx W2 ((HC.out.below hb).below h2))
  rw [hp, hpe] at this
  exact this⟩
 have B_0 : Aside0 (Below w.heap.size w w) := ⟨Below.refl _ _⟩
 have HLO := Aside0.mk hlo
 have HHI := Aside0.mk hhi
 unfold lo0 at HLO
 unfold hi0 at HHI
 clear hC0 hv hv0 hF hlo hhi hl0 hgi hK hL hc h8 h0 hn hnl hM hp0 hy RF EN hp hpe
 go_enter Try.func27, Try.ntmps27
 go_wp2_with (first | ((with_reducible refine gate_dst (N := 4) rfl ?_); refine box_event ?hg (N := 4) ?hd (cs := #[.int .u32 0, .int .u32 0, .bool false]) (t := 32) ?hr ?_; (case hd => rfl); (case hg => rfl); (case hr => first | (go_simp; done) | (go_simp; rfl)); intro gr hg_ w1 hm_ hb_; have GR := Aside0.mk (show w.heap.size ≤ gr by rw [hg_]; exact B_0.out.size); have B_1 := Aside0.mk (below_step B_0.out hb_); have R_1 := Aside0.mk (hm_); have cM := (blk_cell (blk_below HM.out B_1.out) 0).trans rfl; have cP := pw_cell_below B_1.out HP.out; clear hm_ hb_ hg_) | (go_at_call 40; (with_reducible refine (ends_calls gi A0 c0 l0 HV.out _ (HCC.out.below B_1.out)).mono ?_); rw [HLO.out, HHI.out]; rintro e w2 ⟨rfl, hb⟩; have B_2 := Aside0.mk (below_step B_1.out hb); have R_2 := Aside0.mk (blk_below R_1.out hb); clear R_1; clear hb) | (go_at_call 41; (with_reducible refine (HFI.out _ B_2.out).mono ?_); rintro e w3 ⟨rfl, hb⟩; have B_3 := Aside0.mk (below_step B_2.out hb); have R_3 := Aside0.mk (blk_below R_2.out hb); clear R_2; clear hb) | ((with_reducible refine gate_store (p := 4) rfl ?_); refine store_event rfl rfl rfl gr #[.int .u32 (pX : Int), .int .u32 (pB : Int), .bool pH] _ 32 rfl rfl R_3.out size32 rfl (by simp [Value.oneCell']) ?_; intro w4 hm_ hst_ hbl_; have B_4 := Aside0.mk (B_3.out.trans (hbl_ _ GR.out)); have R_4 := Aside0.mk (hm_); clear R_3 hm_ hst_ hbl_))
 refine bodyPost_ret (results_ct rfl _ _ gr 32 #[.int .u32 (pX : Int), .int .u32 (pB : Int), .bool pH] (0, 0) _ rfl R_4.out Try.underlying32 rfl (by kernel_rfl)) rfl ?_
 exact ⟨rfl, B_4.out⟩
set_option maxHeartbeats 2000000 in
theorem Checkh_calls (g : Nat) (gs : List Nat) (ls : List (List (Nat × Nat))) (hv : ∀ l ∈ ls, Val l) (h8 : ls.length ≤ 8) (h0 : 1 ≤ ls.length) (w : World) (hC : ChB w g gs ls) (y X B : Nat) (H : Bool) (hy : y < 4294967296) (hX : X < 4294967296) :
    Calls Try.prog 28 #[.pointer (some ⟨g, 0, none⟩), .int .u32 (y : Int), .agg #[.int .u32 (X : Int), .int .u32 (B : Int), .bool H]] w fun e w' => e = .returned (.bool (ckP (atA ls) (lo0 (ls.getD 0 [])) (hi0 (ls.getD 0 [])) y ⟨X, B, H⟩)) ∧ Below w.heap.size w w' := by
 have RF := ris_all ls hv
 have hv0 := hv _ (getD_mem (show 0 < ls.length by omega) [])
 have EN := ends_ok hv0
 have HC : Aside0 (ChB w g gs ls) := ⟨hC⟩
 obtain ⟨⟨A, c, hM, hc, hK⟩, hL⟩ := hC
 obtain ⟨ad, rfl, hp0⟩ := pk_at hK 0 (by rw [hL.1]; omega)
 obtain ⟨A0, c0, hC0⟩ := hL.2 0 (by rw [hL.1]; omega)
 obtain ⟨n, hn⟩ : ∃ n, gs.length = n := ⟨_, rfl⟩
 have hnl : n = ls.length := by rw [← hn]; exact hL.1
 rw [hn] at hM hc
 obtain ⟨gi, hgi⟩ : ∃ u, gs.getD 0 0 = u := ⟨_, rfl⟩
 obtain ⟨l0, hl0⟩ : ∃ u, ls.getD 0 [] = u := ⟨_, rfl⟩
 rw [hgi] at hp0 hC0
 rw [hl0] at hC0 hv0 EN ⊢
 rw [Addr.add_zero'] at hp0
 have d3 : decide ((0 : Int) < (n : Int)) = true := decide_eq_true (by omega)
 have d4 : (0 < n) = True := eq_true (by omega)
 have HCC : Aside0 (CvB w gi A0 c0 l0) := ⟨hC0⟩
 have HV := Aside0.mk hv0
 have HM := Aside0.mk hM
 have HP := Aside0.mk hp0
 obtain ⟨F, hF⟩ : ∃ F, atA ls = F := ⟨_, rfl⟩
 obtain ⟨lo, hlo⟩ : ∃ u, lo0 l0 = u := ⟨_, rfl⟩
 obtain ⟨hi, hhi⟩ : ∃ u, hi0 l0 = u := ⟨_, rfl⟩
 rw [hF, hlo, hhi]
 rw [hF] at RF
 rw [hlo, hhi] at EN
 have HFI : Aside0 (∀ W, Below w.heap.size w W → Calls Try.prog 42 #[.iface 48 (.pointer (some ⟨g, 0, none⟩)), .int .u32 (lo : Int), .int .u32 (hi : Int), .int .u32 (y : Int), .agg #[.int .u32 (X : Int), .int .u32 (B : Int), .bool H]] W fun e w' => e = .returned (.bool (ckP F lo hi y ⟨X, B, H⟩)) ∧ Below W.heap.size W w') := ⟨fun W hb => by
  exact provedh_calls g lo hi y X B H F W EN.1 EN.2.1 hy hX RF.word (fun W2 x hx h2 => by rw [← hF]; exact ChainAt_calls g gs ls hv h8 h0 x hx W2 ((HC.out.below hb).below h2))⟩
 have B_0 : Aside0 (Below w.heap.size w w) := ⟨Below.refl _ _⟩
 have HLO := Aside0.mk hlo
 have HHI := Aside0.mk hhi
 unfold lo0 at HLO
 unfold hi0 at HHI
 clear hC0 hv hv0 hF hlo hhi hl0 hgi hK hL hc h8 h0 hn hnl hM hp0 hy hX RF EN
 go_enter Try.func28, Try.ntmps28
 go_wp2_with (first | ((with_reducible refine gate_dst (N := 5) rfl ?_); refine box_event ?hg (N := 5) ?hd (cs := #[.int .u32 (X : Int), .int .u32 (B : Int), .bool H]) (t := 32) ?hr ?_; (case hd => rfl); (case hg => rfl); (case hr => first | (go_simp; done) | (go_simp; rfl)); intro gq hg_ w1 hm_ hb_; have GQ := Aside0.mk (show w.heap.size ≤ gq by rw [hg_]; exact B_0.out.size); have B_1 := Aside0.mk (below_step B_0.out hb_); have Q_1 := Aside0.mk (hm_); have cM := (blk_cell (blk_below HM.out B_1.out) 0).trans rfl; have cP := pw_cell_below B_1.out HP.out; clear hm_ hb_ hg_) | (go_at_call 40; (with_reducible refine (ends_calls gi A0 c0 l0 HV.out _ (HCC.out.below B_1.out)).mono ?_); rw [HLO.out, HHI.out]; rintro e w2 ⟨rfl, hb⟩; have B_2 := Aside0.mk (below_step B_1.out hb); have Q_2 := Aside0.mk (blk_below Q_1.out hb); clear Q_1; clear hb) | ((with_reducible refine gate_dst (N := 24) rfl ?_); refine Kd.event_run rfl (v := .agg #[.int .u32 (X : Int), .int .u32 (B : Int), .bool H]) (w1 := w2) ?hr ?_; (case hr => exact load32 (by rfl) rfl (Q_2.out))) | (go_at_call 42; (with_reducible refine (HFI.out _ B_2.out).mono ?_); rintro e w3 ⟨rfl, hb⟩; have B_3 := Aside0.mk (below_step B_2.out hb); have Q_3 := Aside0.mk (blk_below Q_2.out hb); clear Q_2; clear hb))
 go_ret
 exact ⟨rfl, B_3.out⟩
end Go.Proofs.Ytkicfaboibfbpaa.A
end
section
set_option linter.unusedVariables false
set_option linter.unusedSimpArgs false
namespace Go.Proofs.Ytkicfaboibfbpaa.A
open Go.RowKit Go.Proofs.YtkicfaboibfbpaaW.PrintWords Go.Proofs.YtkicfaboibfbpaaW.PrintLast Go.Proofs.YtkicfaboibfbpaaW.PrintMore Go.Proofs.Ytkicfaboibfbpaa.PCurveAts
abbrev Hd := Option Addr × Nat × Nat
/-- a row of headers -/
def hk : Kd Hd := Kd.scalar (fun h : Hd => .slice h.1 h.2.1 h.2.2) (fun _ => rfl)
/-- rows of knots in memory -/
def KsA (w : World) (A : Option Addr) (ls : List (List (Nat × Nat))) : Prop := ∃ hs : List Hd, hs.length = ls.length ∧ hk.C w A hs.length hs ∧ ∀ i, i < ls.length → (hs.getD i (none, 0, 0)).2.1 = (ls.getD i []).length ∧ (ls.getD i []).length ≤ (hs.getD i (none, 0, 0)).2.2 ∧ Kn w (hs.getD i (none, 0, 0)).1 (ls.getD i [])
theorem KsA.below {w w' : World} {A : Option Addr} {ls : List (List (Nat × Nat))} (h : KsA w A ls) (hb : Below w.heap.size w w') : KsA w' A ls := by
 obtain ⟨hs, h1, h2, h3⟩ := h
 exact ⟨hs, h1, Kd.C_below h2 hb, fun i hi => ⟨(h3 i hi).1, (h3 i hi).2.1, (h3 i hi).2.2.below hb⟩⟩
theorem KsA.at_ {w : World} {A : Option Addr} {ls : List (List (Nat × Nat))} (h : KsA w A ls) (i : Nat) (hi : i < ls.length) : ∃ ad B c, A = some ad ∧ w.cell? (ad.add i) = some (.slice B (ls.getD i []).length c) ∧ (ls.getD i []).length ≤ c ∧ Kn w B (ls.getD i []) := by
 obtain ⟨hs, h1, h2, h3⟩ := h
 obtain ⟨ad, cs, hA, hl, hK, hc⟩ := Kd.C_get h2 (none, 0, 0) (i : Int) (by omega) (by omega)
 rw [Int.toNat_natCast] at hK hc
 obtain ⟨a1, a2, a3⟩ := h3 i hi
 have hK' : cs = [.slice (hs.getD i (none, 0, 0)).1 (hs.getD i (none, 0, 0)).2.1 (hs.getD i (none, 0, 0)).2.2] := hK
 have := hc 0 _ (by rw [hK']; rfl)
 rw [a1] at this
 exact ⟨ad, _, _, hA, by simpa [hk, Kd.scalar] using this, a2, a3⟩
set_option maxHeartbeats 4000000 in
theorem rAtAll_calls (A : Option Addr) (c : Nat) (ls : List (List (Nat × Nat))) (hv : ∀ l ∈ ls, Val l) (h8 : ls.length < 1000) (x : Nat) (hx : x < 4294967296) (w : World) (hK : KsA w A ls) :
    Calls Try.prog 35 #[.slice A ls.length c, .int .u32 (x : Int)] w fun e w' => e = .returned (.int .u32 ((atA ls x : Nat) : Int)) ∧ Below w.heap.size w w' := by
 obtain ⟨n, hn⟩ : ∃ n, ls.length = n := ⟨_, rfl⟩
 rw [hn] at h8 ⊢
 have HV := Aside0.mk hv
 have HK : Aside0 (KsA w A ls) := ⟨hK⟩
 have HN := Aside0.mk hn
 have HX := Aside0.mk hx
 have H8 := Aside0.mk h8
 clear hK hv hx hn h8
 go_enter Try.func35, Try.ntmps35
 go_wp2
 go_loopg [1, 5] n (fun kx s1 s12 wr => ∃ (i xi : Nat), s1 = .int .u32 (xi : Int) ∧ s12 = .int .i64 (i : Int) ∧ i ≤ n ∧ n - i ≤ kx ∧ Aside0 (Below w.heap.size w wr) ∧ Aside0 (xi < 4294967296 ∧ atA (ls.drop i) xi = atA ls x))
 case atStart => exact ⟨0, x, rfl, rfl, Nat.zero_le _, by omega, ⟨Below.refl _ _⟩, ⟨HX.out, rfl⟩⟩
 case round =>
  obtain ⟨i, xi, rfl, rfl, i1, i2, HB, I⟩ := hrel
  by_cases hin : i < n
  ·have h8 := H8.out
   have e1i : decide ((0 : Int) ≤ (i : Int)) = true := decide_eq_true (by omega)
   have e2i : decide ((i : Int) < (n : Int)) = true := decide_eq_true (by omega)
   have e5i : ((0 : Int) ≤ (i : Int)) = True := eq_true (by omega)
   have e6i : ((i : Int) < (n : Int)) = True := eq_true (by omega)
   have e7i : (i < n) = True := eq_true (by omega)
   have wi : IntKind.i64.wrap ((i : Int) + 1) = ((i + 1 : Nat) : Int) := by rw [show IntKind.i64.wrap ((i : Int) + 1) = wrap64 ((i : Int) + 1) from i64_w _, w64 (by omega) (by omega)]; omega
   have hil : i < ls.length := by have := HN.out; omega
   obtain ⟨ad, Ai, ci, rfl, hp, hci, hKi⟩ := (HK.out.below HB.out).at_ i hil
   have HC := Aside0.mk hci
   have HKI : Aside0 (Kn wr Ai (ls.getD i [])) := ⟨hKi⟩
   have HVI : Aside0 (Val (ls.getD i [])) := ⟨HV.out _ (getD_mem hil _)⟩
   have IX : Aside0 (xi < 4294967296) := ⟨I.out.1⟩
   have IE : Aside0 (atA (ls.drop (i + 1)) (atP (ls.getD i []) xi) = atA ls x) := ⟨by rw [← atA_drop ls hil]; exact I.out.2⟩
   have HIN := Aside0.mk hin
   obtain ⟨li, hli⟩ : ∃ u, ls.getD i [] = u := ⟨_, rfl⟩
   rw [hli] at hp HC HKI HVI IE
   clear hil hci hin I h8 hKi hli
   go_wp2_with (go_at_call 18; (with_reducible refine (rAt_calls Ai ci li HVI.out xi IX.out _ HC.out HKI.out).mono ?_); rintro e w5 ⟨rfl, hb⟩; have B5 := Aside0.mk (below_step HB.out hb); clear hb)
   go_roundg (n - (i + 1))
   case measure => have := HIN.out; omega
   case rel => exact ⟨i + 1, _, rfl, by first | rfl | (congr 1; omega), HIN.out, by omega, ⟨B5.out⟩, ⟨at_lt HVI.out IX.out, IE.out⟩⟩
  ·obtain rfl : i = n := by omega
   have dd : decide ((i : Int) < (i : Int)) = false := decide_eq_false (by omega)
   have hE := I.out.2
   rw [List.drop_eq_nil_of_le (by have := HN.out; omega)] at hE
   have IE : Aside0 (xi = atA ls x) := ⟨hE⟩
   clear hE hin
   go_wp2
   go_ret
   exact ⟨by rw [← IE.out]; rfl, HB.out⟩
theorem rFromKey_calls (k : Nat) (hk : k < 4294967296) (w : World) : Calls Try.prog 39 #[.int .i64 (k : Int)] w fun e w' => e = .returned (.int .u32 ((fk k : Nat) : Int)) ∧ w' = w := by
 unfold fk
 by_cases h : 2147483648 ≤ k
 ·rw [if_pos h]
  have d1 : decide ((k : Int) ≥ 2147483648) = true := decide_eq_true (by omega)
  have d2 : decide ((2147483648 : Int) ≤ (k : Int)) = true := decide_eq_true (by omega)
  have d3 : (2147483648 ≤ k) = True := eq_true h
  have w1 : IntKind.i64.wrap ((k : Int) - 2147483648) = ((k - 2147483648 : Nat) : Int) := by rw [show IntKind.i64.wrap ((k : Int) - 2147483648) = wrap64 ((k : Int) - 2147483648) from i64_w _, w64 (by omega) (by omega)]; omega
  obtain ⟨q, hq⟩ : ∃ q, k - 2147483648 = q := ⟨_, rfl⟩
  rw [hq] at w1 ⊢
  have w2 : IntKind.u32.wrap (q : Int) = (q : Int) := by rw [IntKind.wrap_u32]; omega
  clear h hq hk
  go_enter Try.func39, Try.ntmps39
  go_wp2
  go_ret
  exact ⟨rfl, rfl⟩
 ·rw [if_neg h]
  have d1 : decide ((k : Int) ≥ 2147483648) = false := decide_eq_false (by omega)
  have d2 : decide ((2147483648 : Int) ≤ (k : Int)) = false := decide_eq_false (by omega)
  have d3 : (2147483648 ≤ k) = False := eq_false h
  have w1 : IntKind.i64.wrap (4294967295 - (k : Int)) = ((4294967295 - k : Nat) : Int) := by rw [show IntKind.i64.wrap (4294967295 - (k : Int)) = wrap64 (4294967295 - (k : Int)) from i64_w _, w64 (by omega) (by omega)]; omega
  obtain ⟨q, hq⟩ : ∃ q, 4294967295 - k = q := ⟨_, rfl⟩
  rw [hq] at w1 ⊢
  have w2 : IntKind.u32.wrap (q : Int) = (q : Int) := by rw [IntKind.wrap_u32]; omega
  clear h hq hk
  go_enter Try.func39, Try.ntmps39
  go_wp2
  go_ret
  exact ⟨rfl, rfl⟩
set_option maxHeartbeats 16000000 in
set_option maxRecDepth 100000 in
theorem rLeast_calls (A : Option Addr) (c : Nat) (ls : List (List (Nat × Nat))) (hv : ∀ l ∈ ls, Val l) (h8 : ls.length < 1000) (h0 : 1 ≤ ls.length) (y : Nat) (hy : y < 4294967296) (w : World) (hK : KsA w A ls) :
    Calls Try.prog 12 #[.slice A ls.length c, .int .u32 (y : Int)] w fun e w' => e = .returned (.tuple #[.agg #[.int .u32 ((lst (atA ls) (lo0 (ls.getD 0 [])) (hi0 (ls.getD 0 [])) y).X : Int), .int .u32 ((lst (atA ls) (lo0 (ls.getD 0 [])) (hi0 (ls.getD 0 [])) y).B : Int), .bool (lst (atA ls) (lo0 (ls.getD 0 [])) (hi0 (ls.getD 0 [])) y).H], .int .i64 ((lerr (atA ls) (hi0 (ls.getD 0 [])) y : Nat) : Int)]) ∧ Below w.heap.size w w' := by
 have RF := ris_all ls hv
 have hv0 := hv _ (getD_mem (show 0 < ls.length by omega) [])
 have EN := ends_ok hv0
 obtain ⟨ad, B0, cz, rfl, hp0, hc0, hK0⟩ := hK.at_ 0 (by omega)
 obtain ⟨l0, hl0⟩ : ∃ u, ls.getD 0 [] = u := ⟨_, rfl⟩
 rw [hl0] at hp0 hc0 hK0 hv0 EN ⊢
 rw [Addr.add_zero'] at hp0
 obtain ⟨b0, rfl, _⟩ := kn_at hK0 0 (by have := hv0.two; omega)
 obtain ⟨a0, a1⟩ := kn_at0 hK0 (by have := hv0.two; omega)
 obtain ⟨m, hm⟩ : ∃ m, l0.length = m + 1 := ⟨l0.length - 1, by have := hv0.two; omega⟩
 obtain ⟨q0, q1⟩ := kn_at2 hK0 m (by omega)
 obtain ⟨F, hF⟩ : ∃ F, atA ls = F := ⟨_, rfl⟩
 obtain ⟨lo, hlo⟩ : ∃ u, lo0 l0 = u := ⟨_, rfl⟩
 obtain ⟨hi, hhi⟩ : ∃ u, hi0 l0 = u := ⟨_, rfl⟩
 have e1 : (gk l0 0).1 = lo := hlo
 have e2 : (gk l0 m).1 = hi := by rw [← hhi]; unfold hi0; rw [show l0.length - 1 = m by omega]
 have hme := hv0.most
 obtain ⟨m1, hm1⟩ : ∃ m1, l0.length = m1 := ⟨_, rfl⟩
 obtain ⟨n, hn⟩ : ∃ n, ls.length = n := ⟨_, rfl⟩
 have HAT : Aside0 (∀ (W : World) (x : Nat), x < 4294967296 → Below w.heap.size w W → Calls Try.prog 35 #[.slice (some ad) n c, .int .u32 (x : Int)] W fun e w' => e = .returned (.int .u32 ((F x : Nat) : Int)) ∧ Below W.heap.size W w') := ⟨fun W x hx hb => by
  rw [← hn, ← hF]
  exact rAtAll_calls _ c ls hv h8 x hx W (hK.below hb)⟩
 rw [e1] at a0
 rw [e2] at q0
 rw [hm1] at hp0 hc0 hm hme
 rw [hF, hlo, hhi]
 rw [hF] at RF
 rw [hlo, hhi] at EN
 rw [hn] at h8 h0 ⊢
 have HRF := Aside0.mk RF
 have HEN := Aside0.mk EN
 have HY := Aside0.mk hy
 have f1 : decide ((0 : Int) < (n : Int)) = true := decide_eq_true (by omega)
 have f2 : (0 < n) = True := eq_true (by omega)
 have f3 : decide ((0 : Int) < (m1 : Int)) = true := decide_eq_true (by omega)
 have f4 : (0 < m1) = True := eq_true (by omega)
 have f5 : decide ((0 : Int) ≤ (m : Int)) = true := decide_eq_true (by omega)
 have f6 : decide ((m : Int) < (m1 : Int)) = true := decide_eq_true (by omega)
 have f7 : ((0 : Int) ≤ (m : Int)) = True := eq_true (by omega)
 have f8 : ((m : Int) < (m1 : Int)) = True := eq_true (by omega)
 have f9 : (m < m1) = True := eq_true (by omega)
 have wm : IntKind.i64.wrap ((m1 : Int) - 1) = (m : Int) := by rw [show IntKind.i64.wrap ((m1 : Int) - 1) = wrap64 ((m1 : Int) - 1) from i64_w _, w64 (by omega) (by omega)]; omega
 have HLO : Aside0 (lo < 4294967296) := ⟨EN.1⟩
 have HHI : Aside0 (hi < 4294967296) := ⟨EN.2.1⟩
 have HCE : Aside0 (w.cell? ad = some (.slice (some b0) m1 cz) ∧ w.cell? b0 = some (.int .u32 (lo : Int)) ∧ w.cell? (b0.add (m * 2)) = some (.int .u32 (hi : Int))) := ⟨hp0, a0, q0⟩
 clear RF EN hF hlo hhi e1 e2 hv hv0 hK hK0 hy h8 h0 hn hm hm1 hl0 hme hc0 a1 q1 hp0 a0 q0
 have B_0 : Aside0 (Below w.heap.size w w) := ⟨Below.refl _ _⟩
 unfold lerr
 cases c0 : isnan y
 case true =>
  have hno : noY F hi y = true := by unfold noY; rw [c0]; rfl
  rw [lst_no hno, if_pos hno]
  clear hno
  go_enter Try.func12, Try.ntmps12
  go_wp2_with (((with_reducible refine gate_dst (N := 4) rfl ?_); refine box_event ?hg (N := 4) ?hd (cs := #[.int .u32 0, .int .u32 0, .bool false]) (t := 32) ?hr ?_; (case hd => rfl); (case hg => rfl); (case hr => first | (go_simp; done) | (go_simp; rfl)); intro gr hg_ w1 hm_ hb_; have GR := Aside0.mk (show w.heap.size ≤ gr by rw [hg_]; exact B_0.out.size); have B_1 := Aside0.mk (below_step B_0.out hb_); have R_1 := Aside0.mk (hm_); obtain ⟨hp0, a0, q0⟩ := (⟨pw_cell_below B_1.out HCE.out.1, pw_cell_below B_1.out HCE.out.2.1, pw_cell_below B_1.out HCE.out.2.2⟩ : _ ∧ _ ∧ _); clear hm_ hb_ hg_))
  have B_2 : Aside0 (Below w.heap.size w w1.drew) := ⟨below_drew B_1.out⟩
  have R_2 := Aside0.mk (blk_drew R_1.out)
  clear B_1 R_1
  refine start_ (n := 12) (S := fun w' => w'.cell? ad = some (.slice (some b0) m1 cz) ∧ w'.cell? b0 = some (.int .u32 (lo : Int)) ∧ w'.cell? (b0.add (m * 2)) = some (.int .u32 (hi : Int))) (ds := []) #[ff_,ff_,ff_,ff_,ff_,ff_,ff_,ff_,ff_,ff_,ff_,ff_] (by kernel_rfl) rfl rfl ⟨hp0, a0, q0⟩ (fun hHeld => ?_)
  generalize w1.drew = w2 at *
  refine pure_ (i := 0) (N := some 18) (v := ?_) (a' := ?_) #[tt_,ff_,ff_,ff_,ff_,ff_,ff_,ff_,ff_,ff_,ff_,ff_] rfl rfl (by kernel_rfl) (fun _ _ _ h => h) (Or.inl ⟨by rfl, ?_⟩) ?_ ?_
  rotate_left
  ·intro w'
   go_simp
   with_reducible rfl
  rotate_left
  ·simp only [Act.put, List.setIfInBounds_toArray, List.set_cons_zero, List.set_cons_succ, i64_w, i32_w]
   rfl
  refine pure_ (i := 1) (N := some 19) (v := ?_) (a' := ?_) #[tt_,tt_,ff_,ff_,ff_,ff_,ff_,ff_,ff_,ff_,ff_,ff_] rfl rfl (by kernel_rfl) (fun _ _ _ h => h) (Or.inl ⟨by rfl, ?_⟩) ?_ ?_
  rotate_left
  ·intro w'
   go_simp
   with_reducible rfl
  rotate_left
  ·simp only [Act.put, List.setIfInBounds_toArray, List.set_cons_zero, List.set_cons_succ, i64_w, i32_w]
   rfl
  refine pure_ (i := 3) (N := some 21) (v := ?_) (a' := ?_) #[tt_,tt_,ff_,tt_,ff_,ff_,ff_,ff_,ff_,ff_,ff_,ff_] rfl rfl (by kernel_rfl) (fun _ _ _ h => h) (Or.inl ⟨by rfl, ?_⟩) ?_ ?_
  rotate_left
  ·intro w'
   go_simp
   with_reducible rfl
  rotate_left
  ·simp only [Act.put, List.setIfInBounds_toArray, List.set_cons_zero, List.set_cons_succ, i64_w, i32_w]
   rfl
  refine pure_ (i := 4) (N := some 22) (v := ?_) (a' := ?_) #[tt_,tt_,ff_,tt_,tt_,ff_,ff_,ff_,ff_,ff_,ff_,ff_] rfl rfl (by kernel_rfl) (fun _ _ _ h => h) (Or.inl ⟨by rfl, ?_⟩) ?_ ?_
  rotate_left
  ·intro w'
   go_simp
   with_reducible rfl
  rotate_left
  ·simp only [Act.put, List.setIfInBounds_toArray, List.set_cons_zero, List.set_cons_succ, i64_w, i32_w]
   rfl
  refine take_ (i := 2) (N := some 20) (v := ?_) (a' := ?_) #[tt_,tt_,tt_,tt_,tt_,ff_,ff_,ff_,ff_,ff_,ff_,ff_] rfl rfl (by kernel_rfl) (fun _ _ _ h => h) (Or.inl ⟨by rfl, ?_⟩) hHeld ?_ ?_
  rotate_left
  ·rintro w' ⟨s0, s1, s2⟩
   go_simp
   with_reducible rfl
  rotate_left
  ·simp only [Act.put, List.setIfInBounds_toArray, List.set_cons_zero, List.set_cons_succ, i64_w, i32_w]
   rfl
  refine take_ (i := 5) (N := some 23) (v := ?_) (a' := ?_) #[tt_,tt_,tt_,tt_,tt_,tt_,ff_,ff_,ff_,ff_,ff_,ff_] rfl rfl (by kernel_rfl) (fun _ _ _ h => h) (Or.inl ⟨by rfl, ?_⟩) hHeld ?_ ?_
  rotate_left
  ·rintro w' ⟨s0, s1, s2⟩
   go_simp
   with_reducible rfl
  rotate_left
  ·simp only [Act.put, List.setIfInBounds_toArray, List.set_cons_zero, List.set_cons_succ, i64_w, i32_w]
   rfl
  refine pure_ (i := 6) (N := some 24) (v := ?_) (a' := ?_) #[tt_,tt_,tt_,tt_,tt_,tt_,tt_,ff_,ff_,ff_,ff_,ff_] rfl rfl (by kernel_rfl) (fun _ _ _ h => h) (Or.inl ⟨by rfl, ?_⟩) ?_ ?_
  rotate_left
  ·intro w'
   go_simp
   with_reducible rfl
  rotate_left
  ·simp only [Act.put, List.setIfInBounds_toArray, List.set_cons_zero, List.set_cons_succ, i64_w, i32_w]
   rfl
  refine pure_ (i := 7) (N := some 25) (v := ?_) (a' := ?_) #[tt_,tt_,tt_,tt_,tt_,tt_,tt_,tt_,ff_,ff_,ff_,ff_] rfl rfl (by kernel_rfl) (fun _ _ _ h => h) (Or.inl ⟨by rfl, ?_⟩) ?_ ?_
  rotate_left
  ·intro w'
   go_simp
   with_reducible rfl
  rotate_left
  ·simp only [Act.put, List.setIfInBounds_toArray, List.set_cons_zero, List.set_cons_succ, i64_w, i32_w]
   rfl
  refine pure_ (i := 8) (N := some 26) (v := ?_) (a' := ?_) #[tt_,tt_,tt_,tt_,tt_,tt_,tt_,tt_,tt_,ff_,ff_,ff_] rfl rfl (by kernel_rfl) (fun _ _ _ h => h) (Or.inl ⟨by rfl, ?_⟩) ?_ ?_
  rotate_left
  ·intro w'
   go_simp
   with_reducible rfl
  rotate_left
  ·simp only [Act.put, List.setIfInBounds_toArray, List.set_cons_zero, List.set_cons_succ, i64_w, i32_w]
   rfl
  refine pure_ (i := 9) (N := some 27) (v := ?_) (a' := ?_) #[tt_,tt_,tt_,tt_,tt_,tt_,tt_,tt_,tt_,tt_,ff_,ff_] rfl rfl (by kernel_rfl) (fun _ _ _ h => h) (Or.inl ⟨by rfl, ?_⟩) ?_ ?_
  rotate_left
  ·intro w'
   go_simp
   with_reducible rfl
  rotate_left
  ·simp only [Act.put, List.setIfInBounds_toArray, List.set_cons_zero, List.set_cons_succ, i64_w, i32_w]
   rfl
  refine take_ (i := 10) (N := some 28) (v := ?_) (a' := ?_) #[tt_,tt_,tt_,tt_,tt_,tt_,tt_,tt_,tt_,tt_,tt_,ff_] rfl rfl (by kernel_rfl) (fun _ _ _ h => h) (Or.inl ⟨by rfl, ?_⟩) hHeld ?_ ?_
  rotate_left
  ·rintro w' ⟨s0, s1, s2⟩
   go_simp
   with_reducible rfl
  rotate_left
  ·simp only [Act.put, List.setIfInBounds_toArray, List.set_cons_zero, List.set_cons_succ, i64_w, i32_w]
   rfl
  refine pure_ (i := 11) (N := some 7) (v := ?_) (a' := ?_) #[tt_,tt_,tt_,tt_,tt_,tt_,tt_,tt_,tt_,tt_,tt_,tt_] rfl rfl (by kernel_rfl) (fun _ _ _ h => h) (Or.inl ⟨by rfl, ?_⟩) ?_ ?_
  rotate_left
  ·intro w'
   go_simp
   with_reducible rfl
  rotate_left
  ·simp only [Act.put, List.setIfInBounds_toArray, List.set_cons_zero, List.set_cons_succ, i64_w, i32_w]
   rfl
  refine done_ (by kernel_rfl) ?_
  clear hp0 a0 q0
  go_wp2_with (first | (go_at_call 37; (with_reducible refine (rNaN_calls y HY.out _).mono ?_); rw [c0]; rintro e w3 ⟨rfl, hd⟩; have hb := hd.below; clear hd; have B_3 := Aside0.mk (below_step B_2.out hb); have R_3 := Aside0.mk (blk_below R_2.out hb); clear R_2; clear hb) | ((with_reducible refine gate_store (p := 4) rfl ?_); refine store_event rfl rfl rfl gr #[.int .u32 0, .int .u32 0, .bool false] _ 32 rfl rfl R_3.out size32 rfl (by simp [Value.oneCell']) ?_; intro w4 hm_ hst_ hbl_; have B_4 := Aside0.mk (B_3.out.trans (hbl_ _ GR.out)); have R_4 := Aside0.mk (hm_); clear R_3 hm_ hst_ hbl_))
  refine bodyPost_ret (results_ct rfl _ _ gr 32 #[.int .u32 0, .int .u32 0, .bool false] (0, 0) _ rfl R_4.out Try.underlying32 rfl (by kernel_rfl)) rfl ?_
  exact ⟨rfl, B_4.out⟩
 cases c1 : lt (F hi) y
 case true =>
  have hno : noY F hi y = true := by unfold noY; rw [c0, c1]; rfl
  rw [lst_no hno, if_pos hno]
  clear hno
  go_enter Try.func12, Try.ntmps12
  go_wp2_with (((with_reducible refine gate_dst (N := 4) rfl ?_); refine box_event ?hg (N := 4) ?hd (cs := #[.int .u32 0, .int .u32 0, .bool false]) (t := 32) ?hr ?_; (case hd => rfl); (case hg => rfl); (case hr => first | (go_simp; done) | (go_simp; rfl)); intro gr hg_ w1 hm_ hb_; have GR := Aside0.mk (show w.heap.size ≤ gr by rw [hg_]; exact B_0.out.size); have B_1 := Aside0.mk (below_step B_0.out hb_); have R_1 := Aside0.mk (hm_); obtain ⟨hp0, a0, q0⟩ := (⟨pw_cell_below B_1.out HCE.out.1, pw_cell_below B_1.out HCE.out.2.1, pw_cell_below B_1.out HCE.out.2.2⟩ : _ ∧ _ ∧ _); clear hm_ hb_ hg_))
  have B_2 : Aside0 (Below w.heap.size w w1.drew) := ⟨below_drew B_1.out⟩
  have R_2 := Aside0.mk (blk_drew R_1.out)
  clear B_1 R_1
  refine start_ (n := 12) (S := fun w' => w'.cell? ad = some (.slice (some b0) m1 cz) ∧ w'.cell? b0 = some (.int .u32 (lo : Int)) ∧ w'.cell? (b0.add (m * 2)) = some (.int .u32 (hi : Int))) (ds := []) #[ff_,ff_,ff_,ff_,ff_,ff_,ff_,ff_,ff_,ff_,ff_,ff_] (by kernel_rfl) rfl rfl ⟨hp0, a0, q0⟩ (fun hHeld => ?_)
  generalize w1.drew = w2 at *
  refine pure_ (i := 0) (N := some 18) (v := ?_) (a' := ?_) #[tt_,ff_,ff_,ff_,ff_,ff_,ff_,ff_,ff_,ff_,ff_,ff_] rfl rfl (by kernel_rfl) (fun _ _ _ h => h) (Or.inl ⟨by rfl, ?_⟩) ?_ ?_
  rotate_left
  ·intro w'
   go_simp
   with_reducible rfl
  rotate_left
  ·simp only [Act.put, List.setIfInBounds_toArray, List.set_cons_zero, List.set_cons_succ, i64_w, i32_w]
   rfl
  refine pure_ (i := 1) (N := some 19) (v := ?_) (a' := ?_) #[tt_,tt_,ff_,ff_,ff_,ff_,ff_,ff_,ff_,ff_,ff_,ff_] rfl rfl (by kernel_rfl) (fun _ _ _ h => h) (Or.inl ⟨by rfl, ?_⟩) ?_ ?_
  rotate_left
  ·intro w'
   go_simp
   with_reducible rfl
  rotate_left
  ·simp only [Act.put, List.setIfInBounds_toArray, List.set_cons_zero, List.set_cons_succ, i64_w, i32_w]
   rfl
  refine pure_ (i := 3) (N := some 21) (v := ?_) (a' := ?_) #[tt_,tt_,ff_,tt_,ff_,ff_,ff_,ff_,ff_,ff_,ff_,ff_] rfl rfl (by kernel_rfl) (fun _ _ _ h => h) (Or.inl ⟨by rfl, ?_⟩) ?_ ?_
  rotate_left
  ·intro w'
   go_simp
   with_reducible rfl
  rotate_left
  ·simp only [Act.put, List.setIfInBounds_toArray, List.set_cons_zero, List.set_cons_succ, i64_w, i32_w]
   rfl
  refine pure_ (i := 4) (N := some 22) (v := ?_) (a' := ?_) #[tt_,tt_,ff_,tt_,tt_,ff_,ff_,ff_,ff_,ff_,ff_,ff_] rfl rfl (by kernel_rfl) (fun _ _ _ h => h) (Or.inl ⟨by rfl, ?_⟩) ?_ ?_
  rotate_left
  ·intro w'
   go_simp
   with_reducible rfl
  rotate_left
  ·simp only [Act.put, List.setIfInBounds_toArray, List.set_cons_zero, List.set_cons_succ, i64_w, i32_w]
   rfl
  refine take_ (i := 2) (N := some 20) (v := ?_) (a' := ?_) #[tt_,tt_,tt_,tt_,tt_,ff_,ff_,ff_,ff_,ff_,ff_,ff_] rfl rfl (by kernel_rfl) (fun _ _ _ h => h) (Or.inl ⟨by rfl, ?_⟩) hHeld ?_ ?_
  rotate_left
  ·rintro w' ⟨s0, s1, s2⟩
   go_simp
   with_reducible rfl
  rotate_left
  ·simp only [Act.put, List.setIfInBounds_toArray, List.set_cons_zero, List.set_cons_succ, i64_w, i32_w]
   rfl
  refine take_ (i := 5) (N := some 23) (v := ?_) (a' := ?_) #[tt_,tt_,tt_,tt_,tt_,tt_,ff_,ff_,ff_,ff_,ff_,ff_] rfl rfl (by kernel_rfl) (fun _ _ _ h => h) (Or.inl ⟨by rfl, ?_⟩) hHeld ?_ ?_
  rotate_left
  ·rintro w' ⟨s0, s1, s2⟩
   go_simp
   with_reducible rfl
  rotate_left
  ·simp only [Act.put, List.setIfInBounds_toArray, List.set_cons_zero, List.set_cons_succ, i64_w, i32_w]
   rfl
  refine pure_ (i := 6) (N := some 24) (v := ?_) (a' := ?_) #[tt_,tt_,tt_,tt_,tt_,tt_,tt_,ff_,ff_,ff_,ff_,ff_] rfl rfl (by kernel_rfl) (fun _ _ _ h => h) (Or.inl ⟨by rfl, ?_⟩) ?_ ?_
  rotate_left
  ·intro w'
   go_simp
   with_reducible rfl
  rotate_left
  ·simp only [Act.put, List.setIfInBounds_toArray, List.set_cons_zero, List.set_cons_succ, i64_w, i32_w]
   rfl
  refine pure_ (i := 7) (N := some 25) (v := ?_) (a' := ?_) #[tt_,tt_,tt_,tt_,tt_,tt_,tt_,tt_,ff_,ff_,ff_,ff_] rfl rfl (by kernel_rfl) (fun _ _ _ h => h) (Or.inl ⟨by rfl, ?_⟩) ?_ ?_
  rotate_left
  ·intro w'
   go_simp
   with_reducible rfl
  rotate_left
  ·simp only [Act.put, List.setIfInBounds_toArray, List.set_cons_zero, List.set_cons_succ, i64_w, i32_w]
   rfl
  refine pure_ (i := 8) (N := some 26) (v := ?_) (a' := ?_) #[tt_,tt_,tt_,tt_,tt_,tt_,tt_,tt_,tt_,ff_,ff_,ff_] rfl rfl (by kernel_rfl) (fun _ _ _ h => h) (Or.inl ⟨by rfl, ?_⟩) ?_ ?_
  rotate_left
  ·intro w'
   go_simp
   with_reducible rfl
  rotate_left
  ·simp only [Act.put, List.setIfInBounds_toArray, List.set_cons_zero, List.set_cons_succ, i64_w, i32_w]
   rfl
  refine pure_ (i := 9) (N := some 27) (v := ?_) (a' := ?_) #[tt_,tt_,tt_,tt_,tt_,tt_,tt_,tt_,tt_,tt_,ff_,ff_] rfl rfl (by kernel_rfl) (fun _ _ _ h => h) (Or.inl ⟨by rfl, ?_⟩) ?_ ?_
  rotate_left
  ·intro w'
   go_simp
   with_reducible rfl
  rotate_left
  ·simp only [Act.put, List.setIfInBounds_toArray, List.set_cons_zero, List.set_cons_succ, i64_w, i32_w]
   rfl
  refine take_ (i := 10) (N := some 28) (v := ?_) (a' := ?_) #[tt_,tt_,tt_,tt_,tt_,tt_,tt_,tt_,tt_,tt_,tt_,ff_] rfl rfl (by kernel_rfl) (fun _ _ _ h => h) (Or.inl ⟨by rfl, ?_⟩) hHeld ?_ ?_
  rotate_left
  ·rintro w' ⟨s0, s1, s2⟩
   go_simp
   with_reducible rfl
  rotate_left
  ·simp only [Act.put, List.setIfInBounds_toArray, List.set_cons_zero, List.set_cons_succ, i64_w, i32_w]
   rfl
  refine pure_ (i := 11) (N := some 7) (v := ?_) (a' := ?_) #[tt_,tt_,tt_,tt_,tt_,tt_,tt_,tt_,tt_,tt_,tt_,tt_] rfl rfl (by kernel_rfl) (fun _ _ _ h => h) (Or.inl ⟨by rfl, ?_⟩) ?_ ?_
  rotate_left
  ·intro w'
   go_simp
   with_reducible rfl
  rotate_left
  ·simp only [Act.put, List.setIfInBounds_toArray, List.set_cons_zero, List.set_cons_succ, i64_w, i32_w]
   rfl
  refine done_ (by kernel_rfl) ?_
  clear hp0 a0 q0
  go_wp2_with (first | (go_at_call 37; (with_reducible refine (rNaN_calls y HY.out _).mono ?_); rw [c0]; rintro e w3 ⟨rfl, hd⟩; have hb := hd.below; clear hd; have B_3 := Aside0.mk (below_step B_2.out hb); have R_3 := Aside0.mk (blk_below R_2.out hb); clear R_2; clear hb) | (go_at_call 35; (with_reducible refine (HAT.out _ hi HHI.out B_3.out).mono ?_); rintro e w4 ⟨rfl, hb⟩; have B_4 := Aside0.mk (below_step B_3.out hb); have R_4 := Aside0.mk (blk_below R_3.out hb); clear R_3; clear hb) | (go_at_call 38; (with_reducible refine (rBelow_calls (F hi) y (HRF.out.word _ HHI.out) HY.out _).mono ?_); rw [c1]; rintro e w5 ⟨rfl, hd⟩; have hb := hd.below; clear hd; have B_5 := Aside0.mk (below_step B_4.out hb); have R_5 := Aside0.mk (blk_below R_4.out hb); clear R_4; clear hb) | ((with_reducible refine gate_store (p := 4) rfl ?_); refine store_event rfl rfl rfl gr #[.int .u32 0, .int .u32 0, .bool false] _ 32 rfl rfl R_5.out size32 rfl (by simp [Value.oneCell']) ?_; intro w6 hm_ hst_ hbl_; have B_6 := Aside0.mk (B_5.out.trans (hbl_ _ GR.out)); have R_6 := Aside0.mk (hm_); clear R_5 hm_ hst_ hbl_))
  refine bodyPost_ret (results_ct rfl _ _ gr 32 #[.int .u32 0, .int .u32 0, .bool false] (0, 0) _ rfl R_6.out Try.underlying32 rfl (by kernel_rfl)) rfl ?_
  exact ⟨rfl, B_6.out⟩
 have hno : noY F hi y = false := by unfold noY; rw [c0, c1]; rfl
 rw [hno, if_neg (by decide)]
 have HNO := Aside0.mk hno
 obtain ⟨p, hp⟩ : ∃ p, lst F lo hi y = p := ⟨_, rfl⟩
 rw [hp]
 have HP := Aside0.mk hp
 obtain ⟨ka, hka⟩ : ∃ a, kf lo = a := ⟨_, rfl⟩
 obtain ⟨kb, hkb⟩ : ∃ a, kf hi = a := ⟨_, rfl⟩
 have HKA := Aside0.mk hka
 have HKB := Aside0.mk hkb
 have HAB : Aside0 (ka ≤ kb ∧ kb < 4294967296) := ⟨by rw [← hka, ← hkb]; exact ⟨HEN.out.2.2.2.2, kf_word HHI.out⟩⟩
 have PB : Aside0 (lt (F (fk kb)) y = false) := ⟨by rw [← hkb, fk_kf' HHI.out]; exact c1⟩
 have HC0 := Aside0.mk c0
 clear hno hp hka hkb
 go_enter Try.func12, Try.ntmps12
 go_wp2_with (((with_reducible refine gate_dst (N := 4) rfl ?_); refine box_event ?hg (N := 4) ?hd (cs := #[.int .u32 0, .int .u32 0, .bool false]) (t := 32) ?hr ?_; (case hd => rfl); (case hg => rfl); (case hr => first | (go_simp; done) | (go_simp; rfl)); intro gr hg_ w1 hm_ hb_; have GR := Aside0.mk (show w.heap.size ≤ gr by rw [hg_]; exact B_0.out.size); have B_1 := Aside0.mk (below_step B_0.out hb_); have R_1 := Aside0.mk (hm_); obtain ⟨hp0, a0, q0⟩ := (⟨pw_cell_below B_1.out HCE.out.1, pw_cell_below B_1.out HCE.out.2.1, pw_cell_below B_1.out HCE.out.2.2⟩ : _ ∧ _ ∧ _); clear hm_ hb_ hg_))
 have B_2 : Aside0 (Below w.heap.size w w1.drew) := ⟨below_drew B_1.out⟩
 have R_2 := Aside0.mk (blk_drew R_1.out)
 clear B_1 R_1
 refine start_ (n := 12) (S := fun w' => w'.cell? ad = some (.slice (some b0) m1 cz) ∧ w'.cell? b0 = some (.int .u32 (lo : Int)) ∧ w'.cell? (b0.add (m * 2)) = some (.int .u32 (hi : Int))) (ds := []) #[ff_,ff_,ff_,ff_,ff_,ff_,ff_,ff_,ff_,ff_,ff_,ff_] (by kernel_rfl) rfl rfl ⟨hp0, a0, q0⟩ (fun hHeld => ?_)
 generalize w1.drew = w2 at *
 refine pure_ (i := 0) (N := some 18) (v := ?_) (a' := ?_) #[tt_,ff_,ff_,ff_,ff_,ff_,ff_,ff_,ff_,ff_,ff_,ff_] rfl rfl (by kernel_rfl) (fun _ _ _ h => h) (Or.inl ⟨by rfl, ?_⟩) ?_ ?_
 rotate_left
 ·intro w'
  go_simp
  with_reducible rfl
 rotate_left
 ·simp only [Act.put, List.setIfInBounds_toArray, List.set_cons_zero, List.set_cons_succ, i64_w, i32_w]
  rfl
 refine pure_ (i := 1) (N := some 19) (v := ?_) (a' := ?_) #[tt_,tt_,ff_,ff_,ff_,ff_,ff_,ff_,ff_,ff_,ff_,ff_] rfl rfl (by kernel_rfl) (fun _ _ _ h => h) (Or.inl ⟨by rfl, ?_⟩) ?_ ?_
 rotate_left
 ·intro w'
  go_simp
  with_reducible rfl
 rotate_left
 ·simp only [Act.put, List.setIfInBounds_toArray, List.set_cons_zero, List.set_cons_succ, i64_w, i32_w]
  rfl
 refine pure_ (i := 3) (N := some 21) (v := ?_) (a' := ?_) #[tt_,tt_,ff_,tt_,ff_,ff_,ff_,ff_,ff_,ff_,ff_,ff_] rfl rfl (by kernel_rfl) (fun _ _ _ h => h) (Or.inl ⟨by rfl, ?_⟩) ?_ ?_
 rotate_left
 ·intro w'
  go_simp
  with_reducible rfl
 rotate_left
 ·simp only [Act.put, List.setIfInBounds_toArray, List.set_cons_zero, List.set_cons_succ, i64_w, i32_w]
  rfl
 refine pure_ (i := 4) (N := some 22) (v := ?_) (a' := ?_) #[tt_,tt_,ff_,tt_,tt_,ff_,ff_,ff_,ff_,ff_,ff_,ff_] rfl rfl (by kernel_rfl) (fun _ _ _ h => h) (Or.inl ⟨by rfl, ?_⟩) ?_ ?_
 rotate_left
 ·intro w'
  go_simp
  with_reducible rfl
 rotate_left
 ·simp only [Act.put, List.setIfInBounds_toArray, List.set_cons_zero, List.set_cons_succ, i64_w, i32_w]
  rfl
 refine take_ (i := 2) (N := some 20) (v := ?_) (a' := ?_) #[tt_,tt_,tt_,tt_,tt_,ff_,ff_,ff_,ff_,ff_,ff_,ff_] rfl rfl (by kernel_rfl) (fun _ _ _ h => h) (Or.inl ⟨by rfl, ?_⟩) hHeld ?_ ?_
 rotate_left
 ·rintro w' ⟨s0, s1, s2⟩
  go_simp
  with_reducible rfl
 rotate_left
 ·simp only [Act.put, List.setIfInBounds_toArray, List.set_cons_zero, List.set_cons_succ, i64_w, i32_w]
  rfl
 refine take_ (i := 5) (N := some 23) (v := ?_) (a' := ?_) #[tt_,tt_,tt_,tt_,tt_,tt_,ff_,ff_,ff_,ff_,ff_,ff_] rfl rfl (by kernel_rfl) (fun _ _ _ h => h) (Or.inl ⟨by rfl, ?_⟩) hHeld ?_ ?_
 rotate_left
 ·rintro w' ⟨s0, s1, s2⟩
  go_simp
  with_reducible rfl
 rotate_left
 ·simp only [Act.put, List.setIfInBounds_toArray, List.set_cons_zero, List.set_cons_succ, i64_w, i32_w]
  rfl
 refine pure_ (i := 6) (N := some 24) (v := ?_) (a' := ?_) #[tt_,tt_,tt_,tt_,tt_,tt_,tt_,ff_,ff_,ff_,ff_,ff_] rfl rfl (by kernel_rfl) (fun _ _ _ h => h) (Or.inl ⟨by rfl, ?_⟩) ?_ ?_
 rotate_left
 ·intro w'
  go_simp
  with_reducible rfl
 rotate_left
 ·simp only [Act.put, List.setIfInBounds_toArray, List.set_cons_zero, List.set_cons_succ, i64_w, i32_w]
  rfl
 refine pure_ (i := 7) (N := some 25) (v := ?_) (a' := ?_) #[tt_,tt_,tt_,tt_,tt_,tt_,tt_,tt_,ff_,ff_,ff_,ff_] rfl rfl (by kernel_rfl) (fun _ _ _ h => h) (Or.inl ⟨by rfl, ?_⟩) ?_ ?_
 rotate_left
 ·intro w'
  go_simp
  with_reducible rfl
 rotate_left
 ·simp only [Act.put, List.setIfInBounds_toArray, List.set_cons_zero, List.set_cons_succ, i64_w, i32_w]
  rfl
 refine pure_ (i := 8) (N := some 26) (v := ?_) (a' := ?_) #[tt_,tt_,tt_,tt_,tt_,tt_,tt_,tt_,tt_,ff_,ff_,ff_] rfl rfl (by kernel_rfl) (fun _ _ _ h => h) (Or.inl ⟨by rfl, ?_⟩) ?_ ?_
 rotate_left
 ·intro w'
  go_simp
  with_reducible rfl
 rotate_left
 ·simp only [Act.put, List.setIfInBounds_toArray, List.set_cons_zero, List.set_cons_succ, i64_w, i32_w]
  rfl
 refine pure_ (i := 9) (N := some 27) (v := ?_) (a' := ?_) #[tt_,tt_,tt_,tt_,tt_,tt_,tt_,tt_,tt_,tt_,ff_,ff_] rfl rfl (by kernel_rfl) (fun _ _ _ h => h) (Or.inl ⟨by rfl, ?_⟩) ?_ ?_
 rotate_left
 ·intro w'
  go_simp
  with_reducible rfl
 rotate_left
 ·simp only [Act.put, List.setIfInBounds_toArray, List.set_cons_zero, List.set_cons_succ, i64_w, i32_w]
  rfl
 refine take_ (i := 10) (N := some 28) (v := ?_) (a' := ?_) #[tt_,tt_,tt_,tt_,tt_,tt_,tt_,tt_,tt_,tt_,tt_,ff_] rfl rfl (by kernel_rfl) (fun _ _ _ h => h) (Or.inl ⟨by rfl, ?_⟩) hHeld ?_ ?_
 rotate_left
 ·rintro w' ⟨s0, s1, s2⟩
  go_simp
  with_reducible rfl
 rotate_left
 ·simp only [Act.put, List.setIfInBounds_toArray, List.set_cons_zero, List.set_cons_succ, i64_w, i32_w]
  rfl
 refine pure_ (i := 11) (N := some 7) (v := ?_) (a' := ?_) #[tt_,tt_,tt_,tt_,tt_,tt_,tt_,tt_,tt_,tt_,tt_,tt_] rfl rfl (by kernel_rfl) (fun _ _ _ h => h) (Or.inl ⟨by rfl, ?_⟩) ?_ ?_
 rotate_left
 ·intro w'
  go_simp
  with_reducible rfl
 rotate_left
 ·simp only [Act.put, List.setIfInBounds_toArray, List.set_cons_zero, List.set_cons_succ, i64_w, i32_w]
  rfl
 refine done_ (by kernel_rfl) ?_
 clear hp0 a0 q0
 go_wp2_with (first | (go_at_call 37; (with_reducible refine (rNaN_calls y HY.out _).mono ?_); rw [c0]; rintro e w3 ⟨rfl, hd⟩; have hb := hd.below; clear hd; have B_3 := Aside0.mk (below_step B_2.out hb); have R_3 := Aside0.mk (blk_below R_2.out hb); clear R_2; clear hb) | (go_at_call 35; (with_reducible refine (HAT.out _ hi HHI.out B_3.out).mono ?_); rintro e w4 ⟨rfl, hb⟩; have B_4 := Aside0.mk (below_step B_3.out hb); have R_4 := Aside0.mk (blk_below R_3.out hb); clear R_3; clear hb) | (go_at_call 38; (with_reducible refine (rBelow_calls (F hi) y (HRF.out.word _ HHI.out) HY.out _).mono ?_); rw [c1]; rintro e w5 ⟨rfl, hd⟩; have hb := hd.below; clear hd; have B_5 := Aside0.mk (below_step B_4.out hb); have R_5 := Aside0.mk (blk_below R_4.out hb); clear R_4; clear hb) | (go_at_call 29; (with_reducible refine (rKey_calls lo HLO.out _).mono ?_); rw [HKA.out]; rintro e w6 ⟨rfl, hd⟩; have hb := hd.below; clear hd; have B_6 := Aside0.mk (below_step B_5.out hb); have R_6 := Aside0.mk (blk_below R_5.out hb); clear R_5; clear hb) | (go_at_call 29; (with_reducible refine (rKey_calls hi HHI.out _).mono ?_); rw [HKB.out]; rintro e w7 ⟨rfl, hd⟩; have hb := hd.below; clear hd; have B_7 := Aside0.mk (below_step B_6.out hb); have R_7 := Aside0.mk (blk_below R_6.out hb); clear R_6; clear hb))
 have GRW := GR
 go_loopg [8, 9] (kb - ka) (fun kx s8 s9 wr => ∃ (kl kh : Nat), s8 = .int .i64 (kl : Int) ∧ s9 = .int .i64 (kh : Int) ∧ kl ≤ kh ∧ ka ≤ kl ∧ kh ≤ kb ∧ kh - kl ≤ kx ∧ Aside0 (Below w.heap.size w wr) ∧ Aside0 (wr.heap[gr]? = some (.cells #[.int .u32 0, .int .u32 0, .bool false] 32 (0, 0))) ∧ Aside0 ((kl = ka ∨ lt (F (fk (kl - 1))) y = true) ∧ lt (F (fk kh)) y = false))
 case atStart => exact ⟨ka, kb, rfl, rfl, HAB.out.1, Nat.le_refl _, Nat.le_refl _, Nat.le_refl _, ⟨B_7.out⟩, ⟨R_7.out⟩, ⟨.inl rfl, PB.out⟩⟩
 case round =>
  obtain ⟨kl, kh, rfl, rfl, k1, k2, k3, k4, B_0, R_0, I⟩ := hrel
  have hkb4 := HAB.out.2
  have HK2 : Aside0 (ka ≤ kl ∧ kl ≤ kh ∧ kh ≤ kb) := ⟨k2, k1, k3⟩
  by_cases hlt : kl < kh
  ·have t1 : decide ((kl : Int) < (kh : Int)) = true := decide_eq_true (by omega)
   have t2 : (kl < kh) = True := eq_true hlt
   obtain ⟨d, hd⟩ : ∃ d, kh - kl = d := ⟨_, rfl⟩
   obtain ⟨d2, hd2⟩ : ∃ d2, d / 2 = d2 := ⟨_, rfl⟩
   obtain ⟨mid, hmid⟩ : ∃ mid, kl + d2 = mid := ⟨_, rfl⟩
   have w1 : IntKind.i64.wrap ((kh : Int) - (kl : Int)) = (d : Int) := by rw [show IntKind.i64.wrap ((kh : Int) - (kl : Int)) = wrap64 ((kh : Int) - (kl : Int)) from i64_w _, w64 (by omega) (by omega)]; omega
   have w2 : (d : Int).tdiv 2 = (d2 : Int) := by rw [← hd2]; rfl
   have w2b : (d : Int) / 2 = (d2 : Int) := by rw [← hd2]; rfl
   have w2c : IntKind.i64.wrap (d2 : Int) = (d2 : Int) := by rw [show IntKind.i64.wrap (d2 : Int) = wrap64 (d2 : Int) from i64_w _, w64 (by omega) (by omega)]
   have w3 : IntKind.i64.wrap ((kl : Int) + (d2 : Int)) = (mid : Int) := by rw [show IntKind.i64.wrap ((kl : Int) + (d2 : Int)) = wrap64 ((kl : Int) + (d2 : Int)) from i64_w _, w64 (by omega) (by omega)]; omega
   have w4 : IntKind.i64.wrap ((mid : Int) + 1) = ((mid + 1 : Nat) : Int) := by rw [show IntKind.i64.wrap ((mid : Int) + 1) = wrap64 ((mid : Int) + 1) from i64_w _, w64 (by omega) (by omega)]; omega
   have HMW : Aside0 (mid < 4294967296) := ⟨by omega⟩
   have HFM : Aside0 (fk mid < 4294967296) := ⟨fk_word HMW.out⟩
   have HM2 : Aside0 (kl ≤ mid ∧ mid < kh ∧ kh - (mid + 1) < kh - kl ∧ mid - kl < kh - kl) := ⟨by omega⟩
   clear hd hd2 hmid hlt hkb4
   cases c5 : lt (F (fk mid)) y
   ·have C5 := Aside0.mk c5
    go_wp2_with (first | (go_at_call 39; (with_reducible refine (rFromKey_calls mid HMW.out _).mono ?_); rintro e _ ⟨rfl, rfl⟩) | (go_at_call 35; (with_reducible refine (HAT.out _ (fk mid) HFM.out B_0.out).mono ?_); rintro e w1 ⟨rfl, hb⟩; have B_1 := Aside0.mk (below_step B_0.out hb); have R_1 := Aside0.mk (blk_below R_0.out hb); clear R_0; clear hb) | (go_at_call 38; (with_reducible refine (rBelow_calls (F (fk mid)) y (HRF.out.word _ HFM.out) HY.out _).mono ?_); rw [c5]; rintro e w2 ⟨rfl, hd⟩; have hb := hd.below; clear hd; have B_2 := Aside0.mk (below_step B_1.out hb); have R_2 := Aside0.mk (blk_below R_1.out hb); clear R_1; clear hb))
    go_roundg (mid - kl)
    case measure => have := HM2.out; omega
    case rel => exact ⟨kl, mid, rfl, rfl, HM2.out.1, HK2.out.1, by have := HM2.out; have := HK2.out; omega, by omega, B_2, R_2, ⟨I.out.1, C5.out⟩⟩
   ·have C5 := Aside0.mk c5
    go_wp2_with (first | (go_at_call 39; (with_reducible refine (rFromKey_calls mid HMW.out _).mono ?_); rintro e _ ⟨rfl, rfl⟩) | (go_at_call 35; (with_reducible refine (HAT.out _ (fk mid) HFM.out B_0.out).mono ?_); rintro e w1 ⟨rfl, hb⟩; have B_1 := Aside0.mk (below_step B_0.out hb); have R_1 := Aside0.mk (blk_below R_0.out hb); clear R_0; clear hb) | (go_at_call 38; (with_reducible refine (rBelow_calls (F (fk mid)) y (HRF.out.word _ HFM.out) HY.out _).mono ?_); rw [c5]; rintro e w2 ⟨rfl, hd⟩; have hb := hd.below; clear hd; have B_2 := Aside0.mk (below_step B_1.out hb); have R_2 := Aside0.mk (blk_below R_1.out hb); clear R_1; clear hb))
    go_roundg (kh - (mid + 1))
    case measure => have := HM2.out; omega
    case rel => exact ⟨mid + 1, kh, by first | rfl | (congr 1; omega), rfl, HM2.out.2.1, by have := HM2.out; have := HK2.out; omega, HK2.out.2.2, by omega, B_2, R_2, ⟨.inr (by rw [Nat.add_sub_cancel]; exact C5.out), I.out.2⟩⟩
  ·obtain rfl : kl = kh := by omega
   have dd : decide ((kl : Int) < (kl : Int)) = false := decide_eq_false (by omega)
   have HKW : Aside0 (kl < 4294967296) := ⟨by omega⟩
   have hN : lstN F lo hi y = kl - ka := by
    have en := HEN.out
    have hka := HKA.out
    have hkb := HKB.out
    refine (srch_uniq (p := fun i => !lt (F (fk (kf lo + i))) y) (n := kf hi - kf lo) (fun i j hij hj hp => rs_mono HRF.out en.1 en.2.1 en.2.2.1 en.2.2.2.1 en.2.2.2.2 HY.out HC0.out i j hij (Nat.le_of_lt hj) hp) (fs_srch _ _) ?_)
    rw [hka, hkb]
    refine ⟨by omega, ?_, .inr ?_⟩
    ·rcases I.out.1 with e | e
     ·exact .inl (by omega)
     ·by_cases e0 : kl = ka
      ·exact .inl (by omega)
      ·refine .inr ?_
       show (!lt (F (fk (ka + (kl - ka - 1)))) y) = false
       rw [show ka + (kl - ka - 1) = kl - 1 by omega, e]; rfl
    ·show (!lt (F (fk (ka + (kl - ka)))) y) = true
     rw [show ka + (kl - ka) = kl by omega, I.out.2]; rfl
   by_cases h0 : kl = ka
   ·have hp : p = ⟨lo, 0, false⟩ := by rw [← HP.out]; exact lst_0 HNO.out (by rw [hN]; omega)
    have hfl : fk kl = lo := by rw [h0, ← HKA.out, fk_kf' HLO.out]
    have HPE : Aside0 (p = ⟨fk kl, 0, false⟩) := ⟨by rw [hp, hfl]⟩
    have t1 : (((fk kl : Nat) : Int) != (lo : Int)) = false := by rw [bne_eq_false_iff_eq]; omega
    have t2 : decide (((fk kl : Nat) : Int) = (lo : Int)) = true := decide_eq_true (by omega)
    have t3 : (fk kl = lo) = True := eq_true hfl
    clear hp hfl h0 hN hlt k1 k2 k3 k4 hkb4
    go_wp2_with (first | (go_at_call 39; (with_reducible refine (rFromKey_calls kl HKW.out _).mono ?_); rintro e _ ⟨rfl, rfl⟩) | ((with_reducible refine gate_dst (N := 11) rfl ?_); refine box_event ?hg (N := 11) ?hd (cs := #[.int .u32 0, .int .u32 0, .bool false]) (t := 32) ?hr ?_; (case hd => rfl); (case hg => rfl); (case hr => first | (go_simp; done) | (go_simp; rfl)); intro gp hg_ w1 hm_ hb_; have NERP := Aside0.mk (show gr ≠ gp by rw [hg_]; have := blk_lt R_0.out; omega); have GP := Aside0.mk (show w.heap.size ≤ gp by rw [hg_]; exact B_0.out.size); have B_1 := Aside0.mk (below_step B_0.out hb_); have R_1 := Aside0.mk (blk_below R_0.out hb_); clear R_0; have P_1 := Aside0.mk (hm_); have cP0 := (blk_cell P_1.out 0).trans rfl; have cP1 := (blk_cell P_1.out 1).trans rfl; have cP2 := (blk_cell P_1.out 2).trans rfl; clear hm_ hb_ hg_) | ((with_reducible refine gate_store (p := 11) rfl ?_); refine store_event rfl rfl rfl gp #[.int .u32 ((fk kl : Nat) : Int), .int .u32 0, .bool false] _ 32 rfl rfl P_1.out size32 rfl (by simp [Value.oneCell']) ?_; intro w2 hm_ hst_ hbl_; clear cP0 cP1 cP2; have B_2 := Aside0.mk (B_1.out.trans (hbl_ _ GP.out)); have R_2 := Aside0.mk ((hst_ gr NERP.out).trans R_1.out); have P_2 := Aside0.mk (hm_); clear R_1 P_1 hm_ hst_ hbl_; have cP0 := (blk_cell P_2.out 0).trans rfl; have cP1 := (blk_cell P_2.out 1).trans rfl; have cP2 := (blk_cell P_2.out 2).trans rfl) | ((with_reducible refine gate_dst (N := 73) rfl ?_); refine Kd.event_run rfl (v := .agg #[.int .u32 ((fk kl : Nat) : Int), .int .u32 0, .bool false]) (w1 := w2) ?hr ?_; (case hr => exact load32 (by rfl) rfl (P_2.out))) | ((with_reducible refine gate_store (p := 4) rfl ?_); refine store_event rfl rfl rfl gr #[.int .u32 ((fk kl : Nat) : Int), .int .u32 0, .bool false] _ 32 rfl rfl R_2.out size32 rfl (by simp [Value.oneCell']) ?_; intro w3 hm_ hst_ hbl_; clear cP0 cP1 cP2; have B_3 := Aside0.mk (B_2.out.trans (hbl_ _ GR.out)); have P_3 := Aside0.mk ((hst_ gp NERP.out.symm).trans P_2.out); have R_3 := Aside0.mk (hm_); clear R_2 P_2 hm_ hst_ hbl_; have cP0 := (blk_cell P_3.out 0).trans rfl; have cP1 := (blk_cell P_3.out 1).trans rfl; have cP2 := (blk_cell P_3.out 2).trans rfl))
    refine bodyPost_ret (results_ct rfl _ _ gr 32 #[.int .u32 ((fk kl : Nat) : Int), .int .u32 0, .bool false] (0, 0) _ rfl R_3.out Try.underlying32 rfl (by kernel_rfl)) rfl ?_
    exact ⟨by rw [HPE.out]; rfl, B_3.out⟩
   ·obtain ⟨kp, hkp⟩ : ∃ kp, kl = kp + 1 := ⟨kl - 1, by omega⟩
    have hp : p = ⟨fk kl, fk kp, true⟩ := by
     rw [← HP.out, lst_n HNO.out (by rw [hN]; omega), hN, HKA.out, show ka + (kl - ka) = kl by omega, show kl - 1 = kp by omega]
    have hfl : fk kl ≠ lo := by
     intro e
     have := congrArg kf e
     rw [kf_fk' HKW.out, HKA.out] at this
     exact h0 this
    have HPE := Aside0.mk hp
    have HPW : Aside0 (kp < 4294967296) := ⟨by omega⟩
    have wk : IntKind.i64.wrap ((kl : Int) - 1) = (kp : Int) := by rw [show IntKind.i64.wrap ((kl : Int) - 1) = wrap64 ((kl : Int) - 1) from i64_w _, w64 (by omega) (by omega)]; omega
    have t1 : (((fk kl : Nat) : Int) != (lo : Int)) = true := by rw [bne_iff_ne]; omega
    have t2 : decide (((fk kl : Nat) : Int) = (lo : Int)) = false := decide_eq_false (by omega)
    have t3 : (fk kl = lo) = False := eq_false hfl
    clear hp hfl h0 hN hlt k1 k2 k3 k4 hkb4 hkp
    go_wp2_with (first | (go_at_call 39; (with_reducible refine (rFromKey_calls kl HKW.out _).mono ?_); rintro e _ ⟨rfl, rfl⟩) | ((with_reducible refine gate_dst (N := 11) rfl ?_); refine box_event ?hg (N := 11) ?hd (cs := #[.int .u32 0, .int .u32 0, .bool false]) (t := 32) ?hr ?_; (case hd => rfl); (case hg => rfl); (case hr => first | (go_simp; done) | (go_simp; rfl)); intro gp hg_ w1 hm_ hb_; have NERP := Aside0.mk (show gr ≠ gp by rw [hg_]; have := blk_lt R_0.out; omega); have GP := Aside0.mk (show w.heap.size ≤ gp by rw [hg_]; exact B_0.out.size); have B_1 := Aside0.mk (below_step B_0.out hb_); have R_1 := Aside0.mk (blk_below R_0.out hb_); clear R_0; have P_1 := Aside0.mk (hm_); have cP0 := (blk_cell P_1.out 0).trans rfl; have cP1 := (blk_cell P_1.out 1).trans rfl; have cP2 := (blk_cell P_1.out 2).trans rfl; clear hm_ hb_ hg_) | ((with_reducible refine gate_store (p := 11) rfl ?_); refine store_event rfl rfl rfl gp #[.int .u32 ((fk kl : Nat) : Int), .int .u32 0, .bool false] _ 32 rfl rfl P_1.out size32 rfl (by simp [Value.oneCell']) ?_; intro w2 hm_ hst_ hbl_; clear cP0 cP1 cP2; have B_2 := Aside0.mk (B_1.out.trans (hbl_ _ GP.out)); have R_2 := Aside0.mk ((hst_ gr NERP.out).trans R_1.out); have P_2 := Aside0.mk (hm_); clear R_1 P_1 hm_ hst_ hbl_; have cP0 := (blk_cell P_2.out 0).trans rfl; have cP1 := (blk_cell P_2.out 1).trans rfl; have cP2 := (blk_cell P_2.out 2).trans rfl) | ((with_reducible refine gate_store (p := 68) rfl ?_); refine storec_event rfl rfl rfl gp 2 (.bool true) _ _ rfl rfl rfl P_2.out size4 (by simp) rfl ?_; intro w3 hm_ hst_ hbl_; clear cP0 cP1 cP2; have B_3 := Aside0.mk (B_2.out.trans (hbl_ _ GP.out)); have R_3 := Aside0.mk ((hst_ gr NERP.out).trans R_2.out); have P_3 := Aside0.mk (hm_); clear R_2 P_2 hm_ hst_ hbl_; have cP0 := (blk_cell P_3.out 0).trans rfl; have cP1 := (blk_cell P_3.out 1).trans rfl; have cP2 := (blk_cell P_3.out 2).trans rfl) | (go_at_call 39; (with_reducible refine (rFromKey_calls kp HPW.out _).mono ?_); rintro e _ ⟨rfl, rfl⟩) | ((with_reducible refine gate_store (p := 72) rfl ?_); refine storec_event rfl rfl rfl gp 1 (.int .u32 ((fk kp : Nat) : Int)) _ _ rfl rfl rfl P_3.out size30 (by simp) rfl ?_; intro w4 hm_ hst_ hbl_; clear cP0 cP1 cP2; have B_4 := Aside0.mk (B_3.out.trans (hbl_ _ GP.out)); have R_4 := Aside0.mk ((hst_ gr NERP.out).trans R_3.out); have P_4 := Aside0.mk (hm_); clear R_3 P_3 hm_ hst_ hbl_; have cP0 := (blk_cell P_4.out 0).trans rfl; have cP1 := (blk_cell P_4.out 1).trans rfl; have cP2 := (blk_cell P_4.out 2).trans rfl) | ((with_reducible refine gate_dst (N := 73) rfl ?_); refine Kd.event_run rfl (v := .agg #[.int .u32 ((fk kl : Nat) : Int), .int .u32 ((fk kp : Nat) : Int), .bool true]) (w1 := w4) ?hr ?_; (case hr => exact load32 (by rfl) rfl (P_4.out))) | ((with_reducible refine gate_store (p := 4) rfl ?_); refine store_event rfl rfl rfl gr #[.int .u32 ((fk kl : Nat) : Int), .int .u32 ((fk kp : Nat) : Int), .bool true] _ 32 rfl rfl R_4.out size32 rfl (by simp [Value.oneCell']) ?_; intro w5 hm_ hst_ hbl_; clear cP0 cP1 cP2; have B_5 := Aside0.mk (B_4.out.trans (hbl_ _ GR.out)); have P_5 := Aside0.mk ((hst_ gp NERP.out.symm).trans P_4.out); have R_5 := Aside0.mk (hm_); clear R_4 P_4 hm_ hst_ hbl_; have cP0 := (blk_cell P_5.out 0).trans rfl; have cP1 := (blk_cell P_5.out 1).trans rfl; have cP2 := (blk_cell P_5.out 2).trans rfl))
    refine bodyPost_ret (results_ct rfl _ _ gr 32 #[.int .u32 ((fk kl : Nat) : Int), .int .u32 ((fk kp : Nat) : Int), .bool true] (0, 0) _ rfl R_5.out Try.underlying32 rfl (by kernel_rfl)) rfl ?_
    exact ⟨by rw [HPE.out]; rfl, B_5.out⟩
end Go.Proofs.Ytkicfaboibfbpaa.A
end
section
set_option linter.unusedVariables false
set_option linter.unusedSimpArgs false
namespace Go.Proofs.Ytkicfaboibfbpaa.A
open Go.RowKit Go.Proofs.YtkicfaboibfbpaaW.PrintWords Go.Proofs.YtkicfaboibfbpaaW.PrintLast Go.Proofs.YtkicfaboibfbpaaW.PrintMore Go.Proofs.Ytkicfaboibfbpaa.PCurveAts
theorem KR.as {w : World} {base : Nat} {v : Value} {l : List (Nat × Nat)} (h : KR w base v l) : ∃ A n c, v = .slice A n c ∧ n = l.length := by
 obtain ⟨A, c, e⟩ := h.slice
 exact ⟨A, _, c, e, rfl⟩
end Go.Proofs.Ytkicfaboibfbpaa.A
end
section
set_option linter.unusedVariables false
set_option linter.unusedSimpArgs false
namespace Go.Proofs.Ytkicfaboibfbpaa.A
open Go.RowKit Go.Proofs.YtkicfaboibfbpaaW.PrintWords Go.Proofs.YtkicfaboibfbpaaW.PrintLast Go.Proofs.YtkicfaboibfbpaaW.PrintMore Go.Proofs.Ytkicfaboibfbpaa.PCurveAts
/-- a new curve: all its own -/
def NewC (w : World) (b g : Nat) (B : Option Addr) (cb : Nat) (l : List (Nat × Nat)) : Prop := b ≤ g ∧ CvB w g B cb l ∧ KR w b (.slice B l.length cb) l
theorem NewC.below {w w1 : World} {b g cb : Nat} {B : Option Addr} {l : List (Nat × Nat)} (h : NewC w b g B cb l) (hb : Below w.heap.size w w1) : NewC w1 b g B cb l := ⟨h.1, h.2.1.below hb, h.2.2.below hb⟩
theorem New_ok {A : Option Addr} {c : Nat} {l : List (Nat × Nat)} (hl : kok l) (h64 : l.length < 1000) (hc : l.length ≤ c) (h0 : chk l = 0) (w : World) (hK : Kn w A l) : Calls Try.prog 31 #[.slice A l.length c] w fun e w' => ∃ g B cb, e = .returned (.tuple #[.pointer (some ⟨g, 0, none⟩), .int .i64 0]) ∧ NewC w' w.heap.size g B cb l ∧ Below w.heap.size w w' := by
 refine (New_calls A c l hl h64 hc w hK).mono ?_
 rintro e w' ⟨v, rfl, hb, h⟩
 obtain ⟨g, B, cb, rfl, hg, hC, hR⟩ := (h.resolve_left (fun h => h.1 h0)).2
 rw [h0]
 exact ⟨g, B, cb, rfl, ⟨hg, hC, hR⟩, hb⟩
section
variable {P : Program} {ops : Array Oper} {Q : Exit → Act → World → Prop} {o : Oper} {rest : List Oper} {a : Act}
end
end Go.Proofs.Ytkicfaboibfbpaa.A
end
section
set_option linter.unusedVariables false
set_option linter.unusedSimpArgs false
namespace Go.Proofs.Ytkicfaboibfbpaa.A
open Go.RowKit Go.Proofs.YtkicfaboibfbpaaW.PrintWords Go.Proofs.YtkicfaboibfbpaaW.PrintLast Go.Proofs.YtkicfaboibfbpaaW.PrintMore Go.Proofs.Ytkicfaboibfbpaa.PCurveAts
theorem eqA32 (d : Nat) (w : World) (x0 y0 x1 y1 : Int) (x2 y2 : Bool) :
    (Op.equalIn (d + 2) 32 (.agg #[.int .u32 x0, .int .u32 x1, .bool x2]) (.agg #[.int .u32 y0, .int .u32 y1, .bool y2])).run Try.prog w = .ok (x0 == y0 && (x1 == y1 && (x2 == y2))) w := by
 refine eqA_of Try.underlying32 (by kernel_rfl) ?_
 refine eqf_cons (by rfl) (by go_simp; rfl) (by go_simp; rfl) (by go_simp) ?_
 refine eqf_cons (by rfl) (by go_simp; rfl) (by go_simp; rfl) (by go_simp) ?_
 exact eqf_last (by rfl) (by go_simp; rfl) (by go_simp; rfl) (by go_simp)
theorem pf_eq (p q : Pf) : ((p.X : Int) == (q.X : Int) && ((p.B : Int) == (q.B : Int) && (p.H == q.H))) = decide (p = q) := by
 obtain ⟨a, b, c⟩ := p
 obtain ⟨d, e, f⟩ := q
 rw [Bool.eq_iff_iff]
 simp only [Bool.and_eq_true, beq_iff_eq, decide_eq_true_iff, Pf.mk.injEq]
 constructor
 ·rintro ⟨h1, h2, h3⟩; exact ⟨by omega, by omega, h3⟩
 ·rintro ⟨h1, h2, h3⟩; exact ⟨by omega, by omega, h3⟩
theorem eql32 (p q : Pf) (w : World) : (binOp .eql 32 (.agg #[.int .u32 (p.X : Int), .int .u32 (p.B : Int), .bool p.H]) (.agg #[.int .u32 (q.X : Int), .int .u32 (q.B : Int), .bool q.H])).run Try.prog w = .ok (.bool (decide (p = q))) w := by
 rw [run_eql_struct, eqA32 9998, Result.andThen_ok, pf_eq]
theorem neq32 (p q : Pf) (w : World) : (binOp .neq 32 (.agg #[.int .u32 (p.X : Int), .int .u32 (p.B : Int), .bool p.H]) (.agg #[.int .u32 (q.X : Int), .int .u32 (q.B : Int), .bool q.H])).run Try.prog w = .ok (.bool (!decide (p = q))) w := by
 have e := eqA32 9998 w p.X q.X p.B q.B p.H q.H
 go_simp
 rw [← pf_eq, Bool.not_and, Bool.not_and]
/-- the chapter's curve -/
def mk : List (Nat × Nat) := [(0, 0), (1065353216, 1056964608), (1073741824, 1082130432)]
theorem mk0 : chk mk = 0 := by decide +kernel
theorem mk1 : atP mk 1056964608 = 1048576000 := by decide +kernel
theorem mk2 : atP mk 1069547520 = 1074790400 := by decide +kernel
theorem mk3 : atP mk 3212836864 = 0 := by decide +kernel
theorem mk4 : atP mk 2139095041 = 2143289344 := by decide +kernel
theorem mk5 : ckP (atP mk) 0 1073741824 1048576000 ⟨1056964608, 1056964607, true⟩ = true := by decide +kernel
theorem mk6 : noY (atP mk) 1073741824 1048576000 = false := by decide +kernel
theorem mk7 : noY (atP mk) 1073741824 1084227584 = true := by decide +kernel
theorem mk_ok : kok mk := by intro k hk; simp [mk] at hk; rcases hk with rfl | rfl | rfl <;> decide
theorem mkV : Val mk := chk_val mk_ok mk0
theorem mkL : lst (atP mk) (lo0 mk) (hi0 mk) 1048576000 = ⟨1056964608, 1056964607, true⟩ := by
 have e := ends_ok mkV
 have h := check_lst (ris_at mkV) e.1 e.2.1 e.2.2.1 e.2.2.2.1 e.2.2.2.2 (y := 1048576000) (by decide) ⟨1056964608, 1056964607, true⟩ (by decide)
 have h2 : ckP (atP mk) (lo0 mk) (hi0 mk) 1048576000 ⟨1056964608, 1056964607, true⟩ = true := mk5
 have h3 : noY (atP mk) (hi0 mk) 1048576000 = false := mk6
 rw [h2, h3, Bool.not_false, Bool.true_and] at h
 exact (of_decide_eq_true h.symm).symm
theorem mk_new {w : World} {g : Nat} (h : w.heap[g]? = some (.cells #[.int .u32 0, .int .u32 0, .int .u32 1065353216, .int .u32 1056964608, .int .u32 1073741824, .int .u32 1082130432] 43 (0, 0))) : Kn w (some ⟨g, 0, none⟩) mk := by
 refine ⟨rfl, by decide, fun _ => ⟨_, rfl, fun j p hj => ?_⟩⟩
 have c0 := (blk_cell h 0).trans rfl
 have c1 := (blk_cell h 1).trans rfl
 have c2 := (blk_cell h 2).trans rfl
 have c3 := (blk_cell h 3).trans rfl
 have c4 := (blk_cell h 4).trans rfl
 have c5 := (blk_cell h 5).trans rfl
 match j, hj with
 | 0, hj => obtain rfl := Option.some.inj hj; exact ⟨_, rfl, k43.K_of_M (k43_mkM w 0 (fun _ => True) _), fun i u hu => by
     match i, hu with
     | 0, hu => obtain rfl := Option.some.inj hu; exact c0
     | 1, hu => obtain rfl := Option.some.inj hu; exact c1⟩
 | 1, hj => obtain rfl := Option.some.inj hj; exact ⟨_, rfl, k43.K_of_M (k43_mkM w 0 (fun _ => True) _), fun i u hu => by
     match i, hu with
     | 0, hu => obtain rfl := Option.some.inj hu; exact c2
     | 1, hu => obtain rfl := Option.some.inj hu; exact c3⟩
 | 2, hj => obtain rfl := Option.some.inj hj; exact ⟨_, rfl, k43.K_of_M (k43_mkM w 0 (fun _ => True) _), fun i u hu => by
     match i, hu with
     | 0, hu => obtain rfl := Option.some.inj hu; exact c4
     | 1, hu => obtain rfl := Option.some.inj hu; exact c5⟩
set_option maxHeartbeats 2000000 in
theorem made_calls (w : World) : Calls Try.prog 36 #[] w fun e w' => ∃ g B cb, e = .returned (.pointer (some ⟨g, 0, none⟩)) ∧ CvB w' g B cb mk ∧ Below w.heap.size w w' := by
 have HN : Aside0 (∀ W A c, Kn W A mk → 3 ≤ c → Calls Try.prog 31 #[.slice A 3 c] W fun e w' => ∃ g B cb, e = .returned (.tuple #[.pointer (some ⟨g, 0, none⟩), .int .i64 0]) ∧ NewC w' W.heap.size g B cb mk ∧ Below W.heap.size W w') := ⟨fun W A c h hc => New_ok mk_ok (by decide) hc mk0 W h⟩
 have HK : Aside0 (Kn (w.alloc (.cells #[.int .u32 0, .int .u32 0, .int .u32 1065353216, .int .u32 1056964608, .int .u32 1073741824, .int .u32 1082130432] 43 (0, 0))) (some ⟨w.heap.size, 0, none⟩) mk) := ⟨mk_new (blk_new w _)⟩
 have HB : Aside0 (Below w.heap.size w (w.alloc (.cells #[.int .u32 0, .int .u32 0, .int .u32 1065353216, .int .u32 1056964608, .int .u32 1073741824, .int .u32 1082130432] 43 (0, 0)))) := ⟨below_alloc (Below.refl _ _) _⟩
 go_enter Try.func36, Try.ntmps36
 go_wp2_with ((go_at_call 31; (with_reducible refine (HN.out _ _ _ HK.out (Nat.le_refl _)).mono ?_); rintro e w1 ⟨g, B, cb, rfl, hC, hb⟩; have C1 := Aside0.mk hC; have B1 := Aside0.mk (below_step HB.out hb); clear hC hb))
 go_ret
 exact ⟨g, B, cb, rfl, C1.out.2.1, B1.out⟩
section
variable {ops : Array Oper} {Q : Exit → Act → World → Prop} {o : Oper} {rest : List Oper} {a : Act}
/-- a proof is loaded out of its box, guarded or not -/
theorem loadg32 {W : World} {p : Operand} (ho : o.op = .load 32 p) (hw : Region.wanted o (yielded ops a.tmps) = true) (g : Nat) (x y z : Value) (hp : a.eval p = .pointer (some ⟨g, 0, none⟩)) (hg : W.heap[g]? = some (.cells #[x, y, z] 32 (0, 0)))
    (h : wpList Try.prog ops Q rest (a.put o.dst (.agg #[x, y, z])) W) : wpList Try.prog ops Q (o :: rest) a W := by
 refine wpList_step fun K hK => ?_
 rw [if_pos hw]
 unfold Oper.wp
 rw [load32 ho hp hg]
 exact hK _ _ h
end
set_option maxHeartbeats 8000000 in
set_option maxRecDepth 100000 in
theorem known_calls (w : World) : Calls Try.prog 10 #[] w fun e w' => e = .returned (.bool true) ∧ Below w.heap.size w w' := by
 have HA0 : Aside0 (∀ W g B cb, CvB W g B cb mk → Calls Try.prog 17 #[.pointer (some ⟨g, 0, none⟩), .int .u32 1056964608] W fun e w' => e = .returned (.int .u32 1048576000) ∧ Below W.heap.size W w') := ⟨fun W g B cb h => by
  have := At_calls g B cb mk mkV 1056964608 (by decide) W h
  rw [mk1] at this
  exact this⟩
 have HA1 : Aside0 (∀ W g B cb, CvB W g B cb mk → Calls Try.prog 17 #[.pointer (some ⟨g, 0, none⟩), .int .u32 1069547520] W fun e w' => e = .returned (.int .u32 1074790400) ∧ Below W.heap.size W w') := ⟨fun W g B cb h => by
  have := At_calls g B cb mk mkV 1069547520 (by decide) W h
  rw [mk2] at this
  exact this⟩
 have HA2 : Aside0 (∀ W g B cb, CvB W g B cb mk → Calls Try.prog 17 #[.pointer (some ⟨g, 0, none⟩), .int .u32 3212836864] W fun e w' => e = .returned (.int .u32 0) ∧ Below W.heap.size W w') := ⟨fun W g B cb h => by
  have := At_calls g B cb mk mkV 3212836864 (by decide) W h
  rw [mk3] at this
  exact this⟩
 have HA3 : Aside0 (∀ W g B cb, CvB W g B cb mk → Calls Try.prog 17 #[.pointer (some ⟨g, 0, none⟩), .int .u32 2139095041] W fun e w' => e = .returned (.int .u32 2143289344) ∧ Below W.heap.size W w') := ⟨fun W g B cb h => by
  have := At_calls g B cb mk mkV 2139095041 (by decide) W h
  rw [mk4] at this
  exact this⟩
 have HL0 : Aside0 (∀ W g B cb, CvB W g B cb mk → Calls Try.prog 13 #[.pointer (some ⟨g, 0, none⟩), .int .u32 1048576000] W fun e w' => e = .returned (.tuple #[.agg #[.int .u32 1056964608, .int .u32 1056964607, .bool true], .int .i64 0]) ∧ Below W.heap.size W w') := ⟨fun W g B cb h => by
  have := Leastc_calls g B cb mk mkV W h 1048576000 (by decide)
  rw [mkL] at this
  have e : lerr (atP mk) (hi0 mk) 1048576000 = 0 := by unfold lerr; rw [show noY (atP mk) (hi0 mk) 1048576000 = false from mk6]; rfl
  rw [e] at this
  exact this⟩
 have HL1 : Aside0 (∀ W g B cb, CvB W g B cb mk → Calls Try.prog 13 #[.pointer (some ⟨g, 0, none⟩), .int .u32 1084227584] W fun e w' => e = .returned (.tuple #[.agg #[.int .u32 0, .int .u32 0, .bool false], .int .i64 43]) ∧ Below W.heap.size W w') := ⟨fun W g B cb h => by
  have := Leastc_calls g B cb mk mkV W h 1084227584 (by decide)
  have hn : noY (atP mk) (hi0 mk) 1084227584 = true := mk7
  rw [lst_no hn] at this
  have e : lerr (atP mk) (hi0 mk) 1084227584 = 43 := by unfold lerr; rw [hn]; rfl
  rw [e] at this
  exact this⟩
 have HC0 : Aside0 (∀ W g B cb, CvB W g B cb mk → Calls Try.prog 14 #[.pointer (some ⟨g, 0, none⟩), .int .u32 1048576000, .agg #[.int .u32 1056964608, .int .u32 1056964607, .bool true]] W fun e w' => e = .returned (.bool true) ∧ Below W.heap.size W w') := ⟨fun W g B cb h => by
  have := Checkc_calls g B cb mk mkV W h 1048576000 1056964608 1056964607 true (by decide) (by decide)
  rw [show ckP (atP mk) (lo0 mk) (hi0 mk) 1048576000 ⟨1056964608, 1056964607, true⟩ = true from mk5] at this
  exact this⟩
 have q1 : ∀ w : World, (binOp .eql 32 (.agg #[.int .u32 1056964608, .int .u32 1056964607, .bool true]) (.agg #[.int .u32 1056964608, .int .u32 1056964607, .bool true])).run Try.prog w = .ok (.bool true) w := fun w => eql32 ⟨1056964608, 1056964607, true⟩ ⟨1056964608, 1056964607, true⟩ w
 go_enter Try.func10, Try.ntmps10
 go_wp2_with (first | (go_at_call 36; (with_reducible refine (made_calls _).mono ?_); rintro e w1 ⟨g, B, cb, rfl, hC, hb⟩; have C_1 := Aside0.mk hC; have B_1 := Aside0.mk hb; clear hC hb) | (go_at_call 17; (with_reducible refine (HA0.out _ g B cb C_1.out).mono ?_); rintro e w2 ⟨rfl, hb⟩; have B_2 := Aside0.mk (below_step B_1.out hb); have C_2 := Aside0.mk (CvB.below C_1.out hb); clear C_1; clear hb) | (go_at_call 17; (with_reducible refine (HA1.out _ g B cb C_2.out).mono ?_); rintro e w3 ⟨rfl, hb⟩; have B_3 := Aside0.mk (below_step B_2.out hb); have C_3 := Aside0.mk (CvB.below C_2.out hb); clear C_2; clear hb) | (go_at_call 17; (with_reducible refine (HA2.out _ g B cb C_3.out).mono ?_); rintro e w4 ⟨rfl, hb⟩; have B_4 := Aside0.mk (below_step B_3.out hb); have C_4 := Aside0.mk (CvB.below C_3.out hb); clear C_3; clear hb) | (go_at_call 17; (with_reducible refine (HA3.out _ g B cb C_4.out).mono ?_); rintro e w5 ⟨rfl, hb⟩; have B_5 := Aside0.mk (below_step B_4.out hb); have C_5 := Aside0.mk (CvB.below C_4.out hb); clear C_4; clear hb) | (go_at_call 13; (with_reducible refine (HL0.out _ g B cb C_5.out).mono ?_); rintro e w6 ⟨rfl, hb⟩; have B_6 := Aside0.mk (below_step B_5.out hb); have C_6 := Aside0.mk (CvB.below C_5.out hb); clear C_5; clear hb) | ((with_reducible refine gate_dst (N := 2) rfl ?_); refine box_event ?hg (N := 2) ?hd (cs := #[.int .u32 0, .int .u32 0, .bool false]) (t := 32) ?hr ?_; (case hd => rfl); (case hg => rfl); (case hr => first | (go_simp; done) | (go_simp; rfl)); intro gp hg_ w7 hm_ hb_; have P_0 := Aside0.mk (C_6.out); have P_B := Aside0.mk (hb_); have P_G := Aside0.mk (show w6.heap.size ≤ gp by rw [hg_]; exact Nat.le_refl _); have GP := Aside0.mk (show w.heap.size ≤ gp by rw [hg_]; exact B_6.out.size); have B_7 := Aside0.mk (below_step B_6.out hb_); have C_7 := Aside0.mk (CvB.below C_6.out hb_); clear C_6; have P_7 := Aside0.mk (hm_); clear hm_ hb_ hg_) | ((with_reducible refine gate_store (p := 2) rfl ?_); refine store_event rfl rfl rfl gp #[.int .u32 1056964608, .int .u32 1056964607, .bool true] _ 32 rfl rfl P_7.out size32 rfl (by simp [Value.oneCell']) ?_; intro w8 hm_ hst_ hbl_; have B_8 := Aside0.mk (B_7.out.trans (hbl_ _ GP.out)); have P_8 := Aside0.mk (hm_); have C_8 := Aside0.mk (P_0.out.below ((P_B.out.trans (hbl_ _ P_G.out)))); clear P_7 C_7 hm_ hst_ hbl_) | (go_at_call 13; (with_reducible refine (HL1.out _ g B cb C_8.out).mono ?_); rintro e w9 ⟨rfl, hb⟩; have B_9 := Aside0.mk (below_step B_8.out hb); have P_9 := Aside0.mk (blk_below P_8.out hb); have C_9 := Aside0.mk (CvB.below C_8.out hb); clear P_8 C_8; clear hb) | ((with_reducible refine gate_dst (N := 4) rfl ?_); refine box_event ?hg (N := 4) ?hd (cs := #[.int .u32 0, .int .u32 0, .bool false]) (t := 32) ?hr ?_; (case hd => rfl); (case hg => rfl); (case hr => first | (go_simp; done) | (go_simp; rfl)); intro go_ hg_ w10 hm_ hb_; have O_0 := Aside0.mk (C_9.out); have O_B := Aside0.mk (hb_); have O_G := Aside0.mk (show w9.heap.size ≤ go_ by rw [hg_]; exact Nat.le_refl _); have NEPO := Aside0.mk (show gp ≠ go_ by rw [hg_]; have := blk_lt P_9.out; omega); have GO := Aside0.mk (show w.heap.size ≤ go_ by rw [hg_]; exact B_9.out.size); have B_10 := Aside0.mk (below_step B_9.out hb_); have P_10 := Aside0.mk (blk_below P_9.out hb_); have C_10 := Aside0.mk (CvB.below C_9.out hb_); clear P_9 C_9; have O_10 := Aside0.mk (hm_); clear hm_ hb_ hg_) | ((with_reducible refine gate_store (p := 4) rfl ?_); refine store_event rfl rfl rfl go_ #[.int .u32 0, .int .u32 0, .bool false] _ 32 rfl rfl O_10.out size32 rfl (by simp [Value.oneCell']) ?_; intro w11 hm_ hst_ hbl_; have B_11 := Aside0.mk (B_10.out.trans (hbl_ _ GO.out)); have P_11 := Aside0.mk ((hst_ gp NEPO.out).trans P_10.out); have O_11 := Aside0.mk (hm_); have C_11 := Aside0.mk (O_0.out.below ((O_B.out.trans (hbl_ _ O_G.out)))); clear P_10 O_10 C_10 hm_ hst_ hbl_) | ((with_reducible refine gate_dst (N := 42) rfl ?_); refine loadg32 rfl ?hw gp _ _ _ rfl P_11.out ?_; (case hw => rfl)) | ((with_reducible refine gate_dst (N := 48) rfl ?_); refine loadg32 rfl ?hw gp _ _ _ rfl P_11.out ?_; (case hw => rfl)) | (go_at_call 14; (with_reducible refine (HC0.out _ g B cb C_11.out).mono ?_); rintro e w12 ⟨rfl, hb⟩; have B_12 := Aside0.mk (below_step B_11.out hb); have P_12 := Aside0.mk (blk_below P_11.out hb); have O_12 := Aside0.mk (blk_below O_11.out hb); have C_12 := Aside0.mk (CvB.below C_11.out hb); clear P_11 O_11 C_11; clear hb))
 go_ret
 exact ⟨rfl, B_12.out⟩
end Go.Proofs.Ytkicfaboibfbpaa.A
end
section
set_option linter.unusedVariables false
set_option linter.unusedSimpArgs false
namespace Go.Proofs.Ytkicfaboibfbpaa.A
open Go.RowKit Go.Proofs.YtkicfaboibfbpaaW.PrintWords Go.Proofs.YtkicfaboibfbpaaW.PrintLast Go.Proofs.YtkicfaboibfbpaaW.PrintMore Go.Proofs.Ytkicfaboibfbpaa.PCurveAts
def nat (k : IntKind) : Kd Nat := Kd.scalar (fun x : Nat => Value.int k x) (fun _ => rfl)
/-- the element at a place (the walk's simp leaves it alone) -/
def gt (xs : List Nat) (i : Nat) : Nat := xs.getD i 0
set_option maxHeartbeats 1000000 in
set_option maxRecDepth 100000 in
theorem C_nat {k : IntKind} {w : World} {A : Option Addr} {n : Nat} {xs : List Nat} (h : (nat k).C w A n xs) (i : Nat) (hi : i < n) : ∃ ad, A = some ad ∧ w.cell? (ad.add i) = some (.int k (gt xs i)) := by
 obtain ⟨ad, c, hA, hl, hK, hc⟩ := Kd.C_get h 0 i (by omega) (by omega)
 refine ⟨ad, hA, ?_⟩
 have hK' : c = [.int k (gt xs i)] := hK
 have := hc 0 _ (by rw [hK']; rfl)
 simpa [nat, Kd.scalar] using this

theorem wf32 {a : Int} (h : (Lit.int .u32 a).wf = true) : ∃ n : Nat, a = n ∧ n < 4294967296 := by
 have : 0 ≤ a ∧ a < 4294967296 := by
  simp only [Lit.wf, Bool.and_eq_true, decide_eq_true_eq, show IntKind.u32.min = 0 from rfl, show IntKind.u32.max = 4294967295 from rfl] at h
  omega
 exact ⟨a.toNat, by omega, by omega⟩
theorem natRow {k : IntKind} {m : Nat} (hm0 : 0 < m) (hk : ∀ a, (Lit.int k a).wf = true → ∃ n : Nat, a = n ∧ n < m) {w : World} {a : Option Addr} {len cap : Nat} {zs : List Int} (h : (a = none ∧ len = 0 ∧ cap = 0 ∧ zs = []) ∨ ∃ x, a = some x ∧ len ≤ cap ∧ cap ≤ maxLen ∧ zs.length = cap ∧ (∀ i, i < zs.length → w.cell? (x.add i) = some (.int k (zs.getD i 0))) ∧ ∀ n ∈ zs, (Lit.int k n).wf = true) :
    ∃ xs : List Nat, len = xs.length ∧ (nat k).C w a xs.length xs ∧ xs.length ≤ cap ∧ ∀ i, gt xs i < m := by
 obtain ⟨l, rfl, hr, hm, hw, hc⟩ := ReadsInt.ofRowC h
 refine ⟨l.map Int.toNat, by simp, ?_, by simpa using hc, ?_⟩
 ·refine Kd.C_of_reads (d := 0) ⟨rfl, by simpa using hr.2.1, fun hp => ?_⟩
  obtain ⟨ad, e, hx⟩ := hr.2.2 (by simpa using hp)
  refine ⟨ad, e, fun j hj => ?_⟩
  have hj' : j < l.length := by simpa using hj
  obtain ⟨n, hn, _⟩ := hk (l.getD j 0) (hw _ (by rw [List.getD_eq_getElem?_getD, List.getElem?_eq_getElem hj']; exact List.getElem_mem hj'))
  rw [hx j hj', hn]
  rw [List.getD_eq_getElem?_getD, List.getElem?_eq_getElem hj'] at hn
  simp only [Option.getD_some] at hn
  simp [List.getElem?_eq_getElem hj', hn]
 ·intro i
  unfold gt
  rw [List.getD_eq_getElem?_getD, List.getElem?_map]
  by_cases hi : i < l.length
  ·obtain ⟨n, hn, hlt⟩ := hk l[i] (hw _ (List.getElem_mem hi))
   rw [List.getElem?_eq_getElem hi, hn]
   simpa using hlt
  ·rw [List.getElem?_eq_none (by omega)]; exact hm0
/-- a list of words in memory -/
def Ws (w : World) (A : Option Addr) (xs : List Nat) : Prop := (nat .u32).C w A xs.length xs
theorem Ws.below {w w' : World} {A : Option Addr} {xs : List Nat} (h : Ws w A xs) (hb : Below w.heap.size w w') : Ws w' A xs := Kd.C_below h hb
theorem Ws.at_ {w : World} {A : Option Addr} {xs : List Nat} (h : Ws w A xs) (i : Nat) (hi : i < xs.length) : ∃ ad, A = some ad ∧ w.cell? (ad.add i) = some (.int .u32 ((gt xs i : Nat) : Int)) := C_nat h i hi
theorem Ws.at2 {w : World} {ad : Addr} {xs : List Nat} (h : Ws w (some ad) xs) (i : Nat) (hi : i < xs.length) : w.cell? (ad.add i) = some (.int .u32 ((gt xs i : Nat) : Int)) := by
 obtain ⟨ad2, e, h2⟩ := h.at_ i hi
 obtain rfl := Option.some.inj e
 exact h2
end Go.Proofs.Ytkicfaboibfbpaa.A
end
section
set_option linter.unusedVariables false
set_option linter.unusedSimpArgs false
namespace Go.Proofs.Ytkicfaboibfbpaa.A
open Go.RowKit Go.Proofs.YtkicfaboibfbpaaW.PrintWords Go.Proofs.YtkicfaboibfbpaaW.PrintLast Go.Proofs.YtkicfaboibfbpaaW.PrintMore Go.Proofs.Ytkicfaboibfbpaa.PCurveAts
/-- curves all of own memory -/
def Cvn (w : World) (b : Nat) (gs : List Nat) (ls : List (List (Nat × Nat))) : Prop := gs.length = ls.length ∧ ∀ i, i < gs.length → ∃ A c, NewC w b (gs.getD i 0) A c (ls.getD i [])
theorem Cvn.cvs {w : World} {b : Nat} {gs : List Nat} {ls : List (List (Nat × Nat))} (h : Cvn w b gs ls) : Cvs w gs ls := ⟨h.1, fun i hi => by obtain ⟨A, c, h1⟩ := h.2 i hi; exact ⟨A, c, h1.2.1⟩⟩
theorem Cvn.below {w w1 : World} {b : Nat} {gs : List Nat} {ls : List (List (Nat × Nat))} (h : Cvn w b gs ls) (hb : Below w.heap.size w w1) : Cvn w1 b gs ls := ⟨h.1, fun i hi => by obtain ⟨A, c, h1⟩ := h.2 i hi; exact ⟨A, c, h1.below hb⟩⟩
theorem Cvn.nil (w : World) (b : Nat) : Cvn w b [] [] := ⟨rfl, fun i hi => absurd hi (by simp)⟩
theorem Cvn.snoc {w : World} {b g c : Nat} {A : Option Addr} {gs : List Nat} {ls : List (List (Nat × Nat))} {l : List (Nat × Nat)} (h : Cvn w b gs ls) (h1 : NewC w b g A c l) : Cvn w b (gs ++ [g]) (ls ++ [l]) := by
 refine ⟨by simp [h.1], fun i hi => ?_⟩
 rw [List.length_append] at hi
 rcases Nat.lt_or_ge i gs.length with h2 | h2
 ·rw [List.getD_eq_getElem?_getD, List.getElem?_append_left h2, ← List.getD_eq_getElem?_getD, List.getD_eq_getElem?_getD (l := ls ++ [l]), List.getElem?_append_left (by rw [← h.1]; exact h2), ← List.getD_eq_getElem?_getD]
  exact h.2 i h2
 ·have e : i = gs.length := by simp at hi; omega
  subst e
  rw [List.getD_eq_getElem?_getD, List.getElem?_append_right (Nat.le_refl _), List.getD_eq_getElem?_getD (l := ls ++ [l]), List.getElem?_append_right (by rw [h.1]; exact Nat.le_refl _), Nat.sub_self, h.1, Nat.sub_self]
  exact ⟨A, c, h1⟩
/-- what changes a row of pointers alone leaves the curves -/
theorem NewC.but {w w1 : World} {b g cb r : Nat} {B : Option Addr} {l : List (Nat × Nat)} {cells : Array Value} (h : NewC w b g B cb l) (hr : w.heap[r]? = some (.cells cells 26 (0, 0))) (hm : ∀ k, k < w.heap.size → k ≠ r → w1.heap[k]? = w.heap[k]?) : NewC w1 b g B cb l := by
 obtain ⟨h1, h2, h3⟩ := h
 have hgr : g ≠ r := fun e => by
  have this := h2.1
  rw [e, hr] at this
  injection this with this
  injection this with _ this
  cases this
 have hR : KR w1 b (.slice B l.length cb) l := by
  have h4 := Kd.R_types (Kd.R_bound h3) hr (by decide)
  exact Kd.R_mono (Kd.R_move h4 (fun k hk => hm k hk.1.2.2.1 hk.2)) (fun _ _ => trivial)
 exact ⟨h1, ⟨(hm g (blk_lt h2.1) hgr).trans h2.1, h2.2.1, hR.kn.2.2⟩, hR⟩
theorem Cvn.but {w w1 : World} {b r : Nat} {gs : List Nat} {ls : List (List (Nat × Nat))} {cells : Array Value} (h : Cvn w b gs ls) (hr : w.heap[r]? = some (.cells cells 26 (0, 0))) (hm : ∀ k, k < w.heap.size → k ≠ r → w1.heap[k]? = w.heap[k]?) : Cvn w1 b gs ls :=
 ⟨h.1, fun i hi => by obtain ⟨A, c, h1⟩ := h.2 i hi; exact ⟨A, c, h1.but hr hm⟩⟩
/-- an own row of pointers grows -/
theorem Cvn.grown {w w1 : World} {b b2 : Nat} {v : Value} {gs hs : List Nat} {ls : List (List (Nat × Nat))} (h : Cvn w b gs ls) (hR : pk.R 26 w b2 (fun _ => True) v hs) (hg : w.grownBy w1 v.ownBlock) : Cvn w1 b gs ls := by
 cases hv : v.ownBlock with
 | none => exact h.below ⟨hg.os, hg.tape, hg.output, hg.size, fun i hi => hg.block i hi (by rw [hv]; simp)⟩
 | some r =>
  obtain ⟨cells, hc⟩ := Kd.R_typed hR r hv
  exact h.but hc (fun k hk hne => hg.block k hk (by rw [hv]; exact fun e => hne (by injection e)))
/-- an own row of pointers -/
def PR (w : World) (b : Nat) (v : Value) (gs : List Nat) : Prop := pk.R 26 w b (fun _ => True) v gs
/-- a chain of own memory -/
def ChN (w : World) (b gc : Nat) (B : Option Addr) (cb : Nat) (gs : List Nat) : Prop := b ≤ gc ∧ w.heap[gc]? = some (.cells #[.slice B gs.length cb] 83 (0, 0)) ∧ PR w b (.slice B gs.length cb) gs
theorem ChN.chb {w : World} {b gc cb : Nat} {B : Option Addr} {gs : List Nat} {ls : List (List (Nat × Nat))} (h : ChN w b gc B cb gs) (h2 : Cvs w gs ls) : ChB w gc gs ls := by
 obtain ⟨_, hl, hC⟩ := Kd.R_reads' h.2.2
 exact ⟨⟨B, cb, h.2.1, hl, hC⟩, h2⟩
theorem ChN.but {w w1 : World} {b gc cb r : Nat} {B : Option Addr} {gs : List Nat} (h : ChN w b gc B cb gs) (hr : r < b) (hm : ∀ k, k < w.heap.size → k ≠ r → w1.heap[k]? = w.heap[k]?) : ChN w1 b gc B cb gs :=
 ⟨h.1, (hm gc (blk_lt h.2.1) (by have := h.1; omega)).trans h.2.1, Kd.R_mono (Kd.R_move (Kd.R_bound h.2.2) (fun k hk => hm k hk.2.2.1 (by have := hk.2.1; omega))) (fun _ _ => trivial)⟩
set_option maxHeartbeats 2000000 in
theorem Clone54_own (A : Option Addr) (c : Nat) (gs : List Nat) (h0 : 0 < gs.length) (h1 : gs.length < 1000) (hc : gs.length ≤ c) (w : World) (hK : pk.C w A gs.length gs) :
    Calls Try.prog 54 #[.slice A gs.length c] w fun e w' => ∃ B cb, e = .returned (.slice B gs.length cb) ∧ Below w.heap.size w w' ∧ PR w' w.heap.size (.slice B gs.length cb) gs := by
 obtain ⟨ad, rfl, _⟩ := pk_at hK 0 h0
 obtain ⟨n, hn⟩ : ∃ n, gs.length = n := ⟨_, rfl⟩
 rw [hn] at hK ⊢
 have hq2 : ∀ w : World, (binOp .eql 61 (.slice (some ad) n c) (.slice none 0 0)).run Try.prog w = .ok (.bool false) w := fun w => Lib.run_eql_slice_nil w _ _ _ _ _ _ _ Try.underlying61
 have HK : Aside0 (pk.C w (some ad) n gs) := ⟨hK⟩
 have H1 : Aside0 (n < 1000) := ⟨by omega⟩
 have HN := Aside0.mk hn
 clear hK h0 h1 hc hn
 go_enter Try.func54, Try.ntmps54
 go_wp2_with (first
  | ((with_reducible refine gate_dst (N := 4) rfl ?_); refine Kd.event_run rfl (v := .bool false) (w1 := w) ?hr ?_; (case hr => first | (go_simp; done) | (go_simp; rfl)))
  | ((with_reducible refine gate_dst (N := 5) rfl ?_); refine Kd.event_run rfl (v := .slice (some ⟨w.heap.size, 0, none⟩) 0 0) (w1 := w.alloc (.cells #[] 26 (0, 0))) ?hr ?_; (case hr => first | (go_simp; done) | (go_simp; rfl)))
  | ((with_reducible refine gate_dst (N := 7) rfl ?_); refine Kd.R_append_row (fun g : Nat => Value.pointer (some ⟨g, 0, none⟩)) (0 : Nat) (h1 := fun _ => rfl) (W := w.alloc (.cells #[] 26 (0, 0))) (w0 := w) w.heap.size rfl (.tmp 5) (.tmp 6) 61 26 (.pointer none) 8 rfl Try.underlying61 info26 rfl (by omega) (.slice (some ⟨w.heap.size, 0, none⟩) 0 0) [] gs (some ad) n c (fun _ => True) rfl rfl (fun _ _ => trivial) (pk_made w) (Kd.C_alloc HK.out _) (below_alloc (Below.refl _ _) _) (below_alloc (Below.refl _ _) _).size (by have := H1.out; simp only [List.length_nil]; omega) ?_; intro v7 w7 hR hB hg hat; rw [List.nil_append] at hR; have R7 : Aside0 (PR w7 w.heap.size v7 gs) := ⟨hR⟩; have B7 := Aside0.mk hB; clear hR hB hg hat))
 go_ret
 have hR := R7.out
 obtain ⟨B, cb, rfl, h5, h6⟩ := Kd.R_reads hR
 have hn := HN.out
 rw [hn] at hR ⊢
 exact ⟨B, cb, rfl, B7.out, hR⟩
set_option maxHeartbeats 2000000 in
theorem Join_own (A : Option Addr) (c : Nat) (gs : List Nat) (h : 1 ≤ gs.length ∧ gs.length ≤ 8) (hc : gs.length ≤ c) (w : World) (hK : pk.C w A gs.length gs) :
    Calls Try.prog 32 #[.slice A gs.length c] w fun e w' => ∃ gc B cb, e = .returned (.tuple #[.pointer (some ⟨gc, 0, none⟩), .int .i64 0]) ∧ ChN w' w.heap.size gc B cb gs ∧ Below w.heap.size w w' := by
 have HC : Aside0 (∀ W, Below w.heap.size w W → Calls Try.prog 54 #[.slice A gs.length c] W fun e w' => ∃ B cb, e = .returned (.slice B gs.length cb) ∧ Below W.heap.size W w' ∧ PR w' W.heap.size (.slice B gs.length cb) gs) := ⟨fun W hb => Clone54_own A c gs (by omega) (by omega) hc W (Kd.C_below hK hb)⟩
 obtain ⟨n, hn⟩ : ∃ n, gs.length = n := ⟨_, rfl⟩
 rw [hn] at HC h ⊢
 have d1 : ((n : Int) == 0) = false := by rw [beq_eq_false_iff_ne]; omega
 have d1' : decide ((n : Int) = 0) = false := decide_eq_false (by omega)
 have d2 : decide ((n : Int) > 8) = false := decide_eq_false (by omega)
 have d3 : (8 < n) = False := eq_false (by omega)
 have d4 : (n = 0) = False := eq_false (by omega)
 have HN := Aside0.mk hn
 clear h hc hK hn
 go_enter Try.func32, Try.ntmps32
 go_wp2_with (first | (go_at_call 54; (with_reducible refine (HC.out _ (Below.refl _ _)).mono ?_); rintro e w5 ⟨B, cb, rfl, hb, hR⟩; have B5 := Aside0.mk hb; have R5 : Aside0 (PR w5 w.heap.size (.slice B n cb) gs) := ⟨hR⟩; clear hb hR) | ((with_reducible refine gate_dst (N := 15) rfl ?_); refine box_event ?hg (N := 15) ?hd (cs := #[.slice B n cb]) (t := 83) ?hr ?_; (case hd => rfl); (case hg => rfl); (case hr => first | (go_simp; done) | (go_simp; rfl)); intro gc hg_ w7 hm_ hb_; have B7 := Aside0.mk (below_step B5.out hb_); have M7 := Aside0.mk (hm_); have GW := Aside0.mk (show w.heap.size ≤ gc by rw [hg_]; exact B5.out.size); have R7 : Aside0 (PR w7 w.heap.size (.slice B n cb) gs) := ⟨Kd.R_below R5.out hb_⟩; clear hm_ hb_ hg_))
 go_ret2
 have hn := HN.out
 exact ⟨gc, B, cb, rfl, ⟨GW.out, by rw [hn]; exact M7.out, by rw [hn]; exact R7.out⟩, B7.out⟩
/-- all of them may be -/
def vall (ls : List (List (Nat × Nat))) : Bool := ls.all fun l => decide (chk l = 0)
theorem vall_of {ls : List (List (Nat × Nat))} (h : ∀ i, i < ls.length → chk (ls.getD i []) = 0) : vall ls = true := by
 unfold vall
 rw [List.all_eq_true]
 intro l hl
 obtain ⟨i, hi, rfl⟩ := List.mem_iff_getElem.mp hl
 have := h i hi
 rw [List.getD_eq_getElem?_getD, List.getElem?_eq_getElem hi] at this
 exact decide_eq_true this
theorem vall_val {ls : List (List (Nat × Nat))} (hk : ∀ l ∈ ls, kok l) (h : vall ls = true) : ∀ l ∈ ls, Val l := by
 unfold vall at h
 rw [List.all_eq_true] at h
 exact fun l hl => chk_val (hk l hl) (of_decide_eq_true (h l hl))
end Go.Proofs.Ytkicfaboibfbpaa.A
end
