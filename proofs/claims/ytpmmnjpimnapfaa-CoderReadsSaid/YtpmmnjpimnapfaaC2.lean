import Derived.Test.YtpmmnjpimnapfaaC1
set_option linter.unusedVariables false
set_option linter.unusedSimpArgs false
namespace Go.Proofs.Ytpmmnjpimnapfaa.A
open Go.RowKit Go.Proofs.YtpmmnjpimnapfaaW.PrintWords Go.Proofs.YtpmmnjpimnapfaaW.PrintLast Go.Proofs.YtpmmnjpimnapfaaW.PrintMore

theorem wf32 {a : Int} (h : (Lit.int .u32 a).wf = true) : ∃ n : Nat, a = n ∧ n < 4294967296 := by
  have : 0 ≤ a ∧ a < 4294967296 := by
    simp only [Lit.wf, Bool.and_eq_true, decide_eq_true_eq, show IntKind.u32.min = 0 from rfl, show IntKind.u32.max = 4294967295 from rfl] at h
    omega
  exact ⟨a.toNat, by omega, by omega⟩
theorem wf8 {a : Int} (h : (Lit.int .u8 a).wf = true) : ∃ n : Nat, a = n ∧ n < 256 := by
  have : 0 ≤ a ∧ a < 256 := by
    simp only [Lit.wf, Bool.and_eq_true, decide_eq_true_eq, show IntKind.u8.min = 0 from rfl, show IntKind.u8.max = 255 from rfl] at h
    omega
  exact ⟨a.toNat, by omega, by omega⟩
theorem wf64 {a : Int} (h : (Lit.int .i64 a).wf = true) : -9223372036854775808 ≤ a ∧ a < 9223372036854775808 := by
  simp only [Lit.wf, Bool.and_eq_true, decide_eq_true_eq, show IntKind.i64.min = -9223372036854775808 from rfl, show IntKind.i64.max = 9223372036854775807 from rfl] at h
  omega
theorem natRow {k : IntKind} {m : Nat} (hm0 : 0 < m) (hk : ∀ a, (Lit.int k a).wf = true → ∃ n : Nat, a = n ∧ n < m) {w : World} {a : Option Addr} {len cap : Nat} {zs : List Int} (h : (a = none ∧ len = 0 ∧ cap = 0 ∧ zs = []) ∨ ∃ x, a = some x ∧ len ≤ cap ∧ cap ≤ maxLen ∧ zs.length = cap ∧ (∀ i, i < zs.length → w.cell? (x.add i) = some (.int k (zs.getD i 0))) ∧ ∀ n ∈ zs, (Lit.int k n).wf = true) :
    ∃ xs : List Nat, len = xs.length ∧ (nat k).C w a xs.length xs ∧ xs.length ≤ cap ∧ ∀ i, gt xs i < m := by
  obtain ⟨l, rfl, hr, hm, hw, hc⟩ := ReadsInt.ofRowC h
  refine ⟨l.map Int.toNat, by simp, ?_, by simpa using hc, ?_⟩
  · refine Kd.C_of_reads (d := 0) ⟨rfl, by simpa using hr.2.1, fun hp => ?_⟩
    obtain ⟨ad, e, hx⟩ := hr.2.2 (by simpa using hp)
    refine ⟨ad, e, fun j hj => ?_⟩
    have hj' : j < l.length := by simpa using hj
    obtain ⟨n, hn, _⟩ := hk (l.getD j 0) (hw _ (by rw [List.getD_eq_getElem?_getD, List.getElem?_eq_getElem hj']; exact List.getElem_mem hj'))
    rw [hx j hj', hn]
    rw [List.getD_eq_getElem?_getD, List.getElem?_eq_getElem hj'] at hn
    simp only [Option.getD_some] at hn
    simp [List.getElem?_eq_getElem hj', hn]
  · intro i
    unfold gt
    rw [List.getD_eq_getElem?_getD, List.getElem?_map]
    by_cases hi : i < l.length
    · obtain ⟨n, hn, hlt⟩ := hk l[i] (hw _ (List.getElem_mem hi))
      rw [List.getElem?_eq_getElem hi, hn]
      simpa using hlt
    · rw [List.getElem?_eq_none (by omega)]; exact hm0
end Go.Proofs.Ytpmmnjpimnapfaa.A
