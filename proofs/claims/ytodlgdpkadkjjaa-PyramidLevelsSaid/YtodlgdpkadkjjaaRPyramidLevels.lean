/- Proved: the law PyramidLevels holds, at every input. -/
import Derived.Test.YtodlgdpkadkjjaaRows
import Derived.Lib.SmallJoins
import Derived.WalkKit
import Derived.ProofKit
import Derived.OpenShut
import Derived.ShutString
import Derived.ChangeOld
import Derived.Below
import Derived.SizedLaws
import Derived.Test.YtodlgdpkadkjjaaS6
namespace Go.Proofs.Ytodlgdpkadkjjaa.pyramidLevels
open Go.ChangeShapes Go.WideShapes Go.ChangeAt Go.RowKit
set_option linter.unusedVariables false
theorem own : ownKnob Try.prog.godebug = none := by kernel_rfl
theorem laidOut : laidOutB Try.prog = true := by kernel_rfl
def IsRow (k : IntKind) (w : World) (a : Option Addr) (len cap : Nat) (zs : List Int) : Prop :=
  (a = none ∧ len = 0 ∧ cap = 0 ∧ zs = []) ∨
  ∃ x, a = some x ∧ len ≤ cap ∧ cap ≤ maxLen ∧ zs.length = cap ∧ (∀ i, i < zs.length → w.cell? (x.add i) = some (.int k (zs.getD i 0))) ∧ ∀ n ∈ zs, (Lit.int k n).wf = true
theorem sized_part {H : Type} {P : Program} {ts : List TypeId} {ds parts : List (DataW H)} {j : Nat} {t : TypeId} {fs : Array Field} (hsz : (DataW.weightsEach P ts ds).all (· ≤ reachBytes) = true) (ht : ts[j]? = some t) (hd : ds[j]? = some (.agg parts)) (hu : P.underlying t = some (.struct fs)) : (DataW.weightsEach P (fs.toList.map (·.type)) parts).all (· ≤ reachBytes) = true := by
  refine List.all_eq_true.2 fun n hn => ?_
  exact List.all_eq_true.1 hsz n (DataW.weights_mem_each ht hd n (by simp only [DataW.weights, hu]; exact hn))
set_option maxRecDepth 100000 in
theorem lifted (os : Os) (started : os.Started) (H : Type) (enc : TypeId × Value → H) :
    ReturnsInHanded {} Try.checked os 10 .any (Rows.pyramidLevelsSpec.pre6 enc Try.prog Try.f10 Rows.pyramidLevelsRow.domain false) (Rows.pyramidLevelsSpec.post enc Try.prog Try.f10 false true false false) := by
  refine returnsInHanded_of_change_sized (C := Try.checked) own started (by kernel_rfl) Try.func10
    (ChangeSpec.witness6 (enc := enc) (C := Try.checked) false ⟨#[], #[.agg #[.int .i64 0, .int .i64 0, .slice none 0 0], .int .i64 0, .slice none 0 0], []⟩ 8 (by kernel_rfl) (by kernel_rfl) (by kernel_rfl) (by kernel_rfl)) ?_
  intro W base args ds gs before hval0 hW hcnd hsz0 _
  have hsz : (DataW.weightsEach Try.prog (Try.f10.params.toList ++ Rows.pyramidLevelsSpec.plain.varTypes Try.prog) (ds ++ gs)).all (· ≤ reachBytes) = true := hsz0
  have hval : ∀ (j : Nat) t v, Try.f10.params[j]? = some t → args[j]? = some v → Value.okWide Try.prog W .any base t v := hval0
  have hW' := hW
  obtain ⟨p, q, hA0, hV, rfl, hfz, hnd⟩ := hW
  have hA : DataW.TrodAll enc Try.prog W 0 (fun _ => true) true Try.f10.params.toList args.toList ds p := hA0
  rw [Try.params10] at hA hval hsz
  obtain ⟨v0, vs0, d0, ds0, p0, q0, hargs, rfl, rfl, h0, r0⟩ := trodAll_cons hA
  obtain ⟨v1, vs1, d1, ds1, p1, q1, rfl, rfl, rfl, h1, r1⟩ := trodAll_cons r0
  obtain ⟨v2, vs2, d2, ds2, p2, q2, rfl, rfl, rfl, h2, r2⟩ := trodAll_cons r1
  obtain ⟨rfl, rfl, rfl⟩ := trodAll_nil r2
  obtain rfl : args = #[v0, v1, v2] := by cases args; simp_all
  obtain ⟨rfl, rfl⟩ := trodVars_none hV
  have k0 := h0
  have lt0 : ∀ x ∈ p0, x.block < W.heap.size := by obtain ⟨m, hm⟩ := k0; exact DataW.trod_lt m _ _ _ hm
  obtain ⟨e00, e01, e02, y00, y01, y02, m0, rfl, rfl, rfl, hy00, hy01, hy02⟩ := Go.Joins.open_agg3 Try.underlying25 (by kernel_rfl) (by kernel_rfl) (hval 0 25 v0 rfl rfl) h0
  obtain ⟨s0, j00, rfl, ws0⟩ := DataW.trod_int Try.underlying3 hy00
  obtain ⟨t0, j01, rfl, wt0⟩ := DataW.trod_int Try.underlying3 hy01
  simp at j00 j01
  subst j00 j01
  obtain ⟨a0, len0, cap0, j02⟩ := Go.Joins.slice_form Try.underlying23 hy02
  simp at j02
  subst j02
  obtain ⟨z0, w0⟩ : ∃ zs, IsRow .u32 W a0 len0 cap0 zs := by
    rcases open_ints Try.underlying23 Try.underlying50 (by kernel_rfl) hy02 with ⟨hcs, _⟩ | ⟨x, l, c, zs, hcs, _, hl, hm, hz, _, hcell, hwz⟩
    · simp at hcs
      obtain ⟨rfl, rfl, rfl⟩ := hcs
      exact ⟨[], .inl ⟨rfl, rfl, rfl, rfl⟩⟩
    · simp at hcs
      obtain ⟨rfl, rfl, rfl⟩ := hcs
      exact ⟨zs, .inr ⟨_, rfl, hl, hm, by simpa using hz, hcell, hwz⟩⟩
  have y0 : len0 * 4 ≤ 140737488351232 := Go.Proofs.YtodlgdpkadkjjaaW.PrintWords.sized_ints (sized_part hsz (j := 0) (t := 25) rfl rfl Try.underlying25) (j := 2) (t := 23) rfl rfl Try.underlying23 Try.underlying50 (by kernel_rfl) (by kernel_rfl) ⟨_, hy02⟩
  obtain ⟨x0, rfl, C0, c0, g0⟩ := A.natRow (m := 4294967296) (by omega) (fun _ h => A.wf32 h) w0
  obtain ⟨a1, rfl, rfl, rfl, w1⟩ := open_int Try.underlying3 (hval 1 3 v1 rfl rfl) h1
  have g1 := A.wf64 w1
  obtain ⟨a2, len2, cap2, rfl⟩ := okWide_slice Try.underlying67 (hval 2 67 v2 rfl rfl)
  have k2 := h2
  have lt2 : ∀ x ∈ p2, x.block < W.heap.size := by obtain ⟨m, hm⟩ := k2; exact DataW.trod_lt m _ _ _ hm
  have hw2 : ∀ n ∈ d2.weights Try.prog 67, n ≤ reachBytes := fun n hn => by have := List.all_eq_true.1 hsz n (DataW.weights_mem_each (j := 2) (t := 67) rfl rfl n hn); simpa using this
  obtain ⟨fuel2, hf2⟩ := h2
  obtain ⟨l2, rfl, c2, C2, g2, y2⟩ := A.planes_open (y := (d2, p2)) hf2 hw2
  clear hA0 hval0 hsz0 hsz
  refine (A.pyramidLevels s0 t0 a0 cap0 x0 a1 a2 cap2 l2 W C0 c0 g0 g1 C2 c2 g2 y0 y2).mono fun e W' ⟨he, bel⟩ => ?_
  subst he
  exact ⟨_, rfl, _, _, _, [], _, [], hW', trodAll_mk1 (shut_bool Try.underlying4 _), (trodAll_cons_mk (Below.trod laidOut (by kernel_rfl) (of_decide_eq_true (by kernel_rfl)) k0 bel lt0) (trodAll_cons_mk (shut_int Try.underlying3 w1) (trodAll_cons_mk (Below.trod laidOut (by kernel_rfl) (of_decide_eq_true (by kernel_rfl)) k2 bel lt2) trodAll_mk0))), rfl, bel.frame _, fun h => by cases h⟩
theorem over : Rows.pyramidLevelsRow.holds Try.pinned (OpenSpec.ofChange Rows.pyramidLevelsSpec) :=
  OpenClaim.holds_of_wide 10 Try.f10 rfl rfl rfl rfl rfl rfl rfl ⟨rfl, rfl, rfl, rfl, rfl⟩ rfl rfl rfl rfl rfl (by kernel_rfl) Try.func10 (by kernel_rfl)
    (of_decide_eq_true (by kernel_rfl)) (by unfold Func.isWrapper; first | (rw [if_pos (by decide +kernel)]; kernel_rfl) | (rw [if_neg (by decide +kernel)]; exact ⟨rfl, rfl⟩))
    (fun os started H enc _ => lifted os started H enc)
theorem proved : Rows.PyramidLevelsSaid := over
end Go.Proofs.Ytodlgdpkadkjjaa.pyramidLevels
namespace Go.Proofs.Ytodlgdpkadkjjaa
theorem pyramidLevels_holds : Rows.PyramidLevelsSaid := pyramidLevels.proved
#print axioms pyramidLevels_holds
end Go.Proofs.Ytodlgdpkadkjjaa
