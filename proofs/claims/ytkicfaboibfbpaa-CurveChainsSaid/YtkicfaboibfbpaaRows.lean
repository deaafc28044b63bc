/-
  No cell of these rows narrows 'for every input' (looked for: loops, veiled, ifaces, maps, wideKeys, modest, calm, conditions, laid).
  DERIVED. THE GIVEN ROWS OF THIS SEAT. 7 by the template 'for every input the law returns true; each argument reads behind the call as it read before'; 0 by the template 'total and deterministic' (their statements: YtkicfaboibfbpaaTotals.lean).
  GIVEN WITH THE SEED: the statements are not yours to turn. If you find one false, say at which input.
  Laid BY PROGRAM, IN A SANDBOX (cutbox-rows.mjs): the forced cells as the released guide's own fill.sh prints them over the translation 73e08a516e81a36b… (all of the seat's roots in one cut). By AI agents, Wed Nov 11 2026. No macro, syntax, notation, axiom, sorry.
-/
import Derived.Test.YtkicfaboibfbpaaChecked
import GoSem.Claim
import GoSem.ClaimJoined
import GoSem.ClaimMapViews
import Derived.JoinedTies
import Derived.KernelRfl
namespace Go.Proofs.Ytkicfaboibfbpaa
/- THE CELL 'sum', in the pinned program and in every row, IS THE sha256 OF THE DUMP (.gsa) THAT YtkicfaboibfbpaaProg.lean LOADS. Nothing in Lean hashes anything: it is a label: what it is worth is what the hold of that sum in a sandbox is worth. -/
noncomputable def Try.pinned : Pinned := { name := "ytkicfaboibfbpaa", sum := "73e08a516e81a36b911fa2659249c77b3bf0bfd48d23d1a4f528984060924979", checked := Try.checked }
namespace Rows
def none {H : Type} : Left H := { results := [], args := [] }

/-- 'halidelaw4.CurveNames': WHATEVER THE INPUT: true; the input reads as it did. -/
def curveNamesSpec : ChangeSpec := { name := "curveNames", fn := fun _ => fun
  | [] => { results := [.lit (.bool true)], args := [] }
  | _ => none }
def curveNamesRow : OpenClaim := { program := "ytkicfaboibfbpaa", sum := "73e08a516e81a36b911fa2659249c77b3bf0bfd48d23d1a4f528984060924979", func := "halide/halidelaw4.CurveNames", spec := "curveNames", apart := false }
def CurveNamesSaid : Prop := curveNamesRow.holds Try.pinned (OpenSpec.ofChange curveNamesSpec)

/-- ITS FALSE NEIGHBOUR: 'it returns false'. Refute it at one input. -/
def curveNamesWrong : ChangeSpec := { name := "curveNames", fn := fun _ => fun
  | [] => { results := [.lit (.bool false)], args := [] }
  | _ => none }
def CurveNamesWrongFalsely : Prop := curveNamesRow.holds Try.pinned (OpenSpec.ofChange curveNamesWrong)

/-- 'halidelaw4.CurveLeasts': WHATEVER THE INPUT: true; the input reads as it did. -/
def curveLeastsSpec : ChangeSpec := { name := "curveLeasts", fn := fun _ => fun
  | [d1, d2, d3] => { results := [.lit (.bool true)], args := [d1, d2, d3] }
  | _ => none }
def curveLeastsRow : OpenClaim := { program := "ytkicfaboibfbpaa", sum := "73e08a516e81a36b911fa2659249c77b3bf0bfd48d23d1a4f528984060924979", func := "halide/halidelaw4.CurveLeasts", spec := "curveLeasts", inPlace := ["math.Float32frombits", "math.Float32bits"], unfollowed := true, recurses := true, apart := false }
def CurveLeastsSaid : Prop := curveLeastsRow.holds Try.pinned (OpenSpec.ofChange curveLeastsSpec)

/-- ITS FALSE NEIGHBOUR: 'it returns false'. Refute it at one input. -/
def curveLeastsWrong : ChangeSpec := { name := "curveLeasts", fn := fun _ => fun
  | [d1, d2, d3] => { results := [.lit (.bool false)], args := [d1, d2, d3] }
  | _ => none }
def CurveLeastsWrongFalsely : Prop := curveLeastsRow.holds Try.pinned (OpenSpec.ofChange curveLeastsWrong)

/-- 'halidelaw4.CurveAts': WHATEVER THE INPUT: true; the input reads as it did. -/
def curveAtsSpec : ChangeSpec := { name := "curveAts", fn := fun _ => fun
  | [d1, d2] => { results := [.lit (.bool true)], args := [d1, d2] }
  | _ => none }
def curveAtsRow : OpenClaim := { program := "ytkicfaboibfbpaa", sum := "73e08a516e81a36b911fa2659249c77b3bf0bfd48d23d1a4f528984060924979", func := "halide/halidelaw4.CurveAts", spec := "curveAts", inPlace := ["math.Float32frombits", "math.Float32bits"], unfollowed := true, recurses := true, apart := false }
def CurveAtsSaid : Prop := curveAtsRow.holds Try.pinned (OpenSpec.ofChange curveAtsSpec)

/-- ITS FALSE NEIGHBOUR: 'it returns false'. Refute it at one input. -/
def curveAtsWrong : ChangeSpec := { name := "curveAts", fn := fun _ => fun
  | [d1, d2] => { results := [.lit (.bool false)], args := [d1, d2] }
  | _ => none }
def CurveAtsWrongFalsely : Prop := curveAtsRow.holds Try.pinned (OpenSpec.ofChange curveAtsWrong)

/-- 'halidelaw4.CurveRises': WHATEVER THE INPUT: true; the input reads as it did. -/
def curveRisesSpec : ChangeSpec := { name := "curveRises", fn := fun _ => fun
  | [d1, d2] => { results := [.lit (.bool true)], args := [d1, d2] }
  | _ => none }
def curveRisesRow : OpenClaim := { program := "ytkicfaboibfbpaa", sum := "73e08a516e81a36b911fa2659249c77b3bf0bfd48d23d1a4f528984060924979", func := "halide/halidelaw4.CurveRises", spec := "curveRises", inPlace := ["math.Float32frombits", "math.Float32bits"], unfollowed := true, recurses := true, apart := false }
def CurveRisesSaid : Prop := curveRisesRow.holds Try.pinned (OpenSpec.ofChange curveRisesSpec)

/-- ITS FALSE NEIGHBOUR: 'it returns false'. Refute it at one input. -/
def curveRisesWrong : ChangeSpec := { name := "curveRises", fn := fun _ => fun
  | [d1, d2] => { results := [.lit (.bool false)], args := [d1, d2] }
  | _ => none }
def CurveRisesWrongFalsely : Prop := curveRisesRow.holds Try.pinned (OpenSpec.ofChange curveRisesWrong)

/-- 'halidelaw4.CurveTurns': WHATEVER THE INPUT: true; the input reads as it did. -/
def curveTurnsSpec : ChangeSpec := { name := "curveTurns", fn := fun _ => fun
  | [d1, d2] => { results := [.lit (.bool true)], args := [d1, d2] }
  | _ => none }
def curveTurnsRow : OpenClaim := { program := "ytkicfaboibfbpaa", sum := "73e08a516e81a36b911fa2659249c77b3bf0bfd48d23d1a4f528984060924979", func := "halide/halidelaw4.CurveTurns", spec := "curveTurns", inPlace := ["math.Float32frombits", "math.Float32bits"], unfollowed := true, recurses := true, apart := false }
def CurveTurnsSaid : Prop := curveTurnsRow.holds Try.pinned (OpenSpec.ofChange curveTurnsSpec)

/-- ITS FALSE NEIGHBOUR: 'it returns false'. Refute it at one input. -/
def curveTurnsWrong : ChangeSpec := { name := "curveTurns", fn := fun _ => fun
  | [d1, d2] => { results := [.lit (.bool false)], args := [d1, d2] }
  | _ => none }
def CurveTurnsWrongFalsely : Prop := curveTurnsRow.holds Try.pinned (OpenSpec.ofChange curveTurnsWrong)

/-- 'halidelaw4.CurveMeets': WHATEVER THE INPUT: true; the input reads as it did. -/
def curveMeetsSpec : ChangeSpec := { name := "curveMeets", fn := fun _ => fun
  | [d1, d2, d3] => { results := [.lit (.bool true)], args := [d1, d2, d3] }
  | _ => none }
def curveMeetsRow : OpenClaim := { program := "ytkicfaboibfbpaa", sum := "73e08a516e81a36b911fa2659249c77b3bf0bfd48d23d1a4f528984060924979", func := "halide/halidelaw4.CurveMeets", spec := "curveMeets", inPlace := ["math.Float32frombits", "math.Float32bits"], unfollowed := true, recurses := true, apart := false }
def CurveMeetsSaid : Prop := curveMeetsRow.holds Try.pinned (OpenSpec.ofChange curveMeetsSpec)

/-- ITS FALSE NEIGHBOUR: 'it returns false'. Refute it at one input. -/
def curveMeetsWrong : ChangeSpec := { name := "curveMeets", fn := fun _ => fun
  | [d1, d2, d3] => { results := [.lit (.bool false)], args := [d1, d2, d3] }
  | _ => none }
def CurveMeetsWrongFalsely : Prop := curveMeetsRow.holds Try.pinned (OpenSpec.ofChange curveMeetsWrong)

/-- 'halidelaw4.CurveChains': WHATEVER THE INPUT: true; the input reads as it did. -/
def curveChainsSpec : ChangeSpec := { name := "curveChains", fn := fun _ => fun
  | [d1, d2, d3] => { results := [.lit (.bool true)], args := [d1, d2, d3] }
  | _ => none }
def curveChainsRow : OpenClaim := { program := "ytkicfaboibfbpaa", sum := "73e08a516e81a36b911fa2659249c77b3bf0bfd48d23d1a4f528984060924979", func := "halide/halidelaw4.CurveChains", spec := "curveChains", inPlace := ["math.Float32frombits", "math.Float32bits"], unfollowed := true, recurses := true, apart := false }
def CurveChainsSaid : Prop := curveChainsRow.holds Try.pinned (OpenSpec.ofChange curveChainsSpec)

/-- ITS FALSE NEIGHBOUR: 'it returns false'. Refute it at one input. -/
def curveChainsWrong : ChangeSpec := { name := "curveChains", fn := fun _ => fun
  | [d1, d2, d3] => { results := [.lit (.bool false)], args := [d1, d2, d3] }
  | _ => none }
def CurveChainsWrongFalsely : Prop := curveChainsRow.holds Try.pinned (OpenSpec.ofChange curveChainsWrong)

/- THE SECOND FORM. 'bulk': how many values and letters a reading holds, each counted each time it is reached (what is shared counts as often as it is met; a slice's spare places count too). A statement '..UptoSaid' is the law's where the arguments, and the package variables that the reading takes, are together of bulk at most 1048576: NARROWER than '..Said'. Prove '..Said' where nothing that the law and all that it calls make is longer than what came in: it says more and counts as full. Else prove '..UptoSaid'. A law counts once. -/
mutual
def uptoBulk {H : Type} : DataW H → Nat
  | .lit (.string bytes) => bytes.length + 1
  | .lit _ => 1
  | .nil => 1
  | .ptr d => uptoBulk d + 1
  | .slice elems spare => uptoBulkAll elems + uptoBulkAll spare + 1
  | .agg parts => uptoBulkAll parts + 1
  | .iface _ d => uptoBulk d + 1
  | .map entries => uptoBulkEntries entries + 1
  | .held _ => 1
def uptoBulkAll {H : Type} : List (DataW H) → Nat
  | [] => 0
  | d :: r => uptoBulk d + uptoBulkAll r
def uptoBulkEntries {H : Type} : List (Lit × DataW H) → Nat
  | [] => 0
  | x :: r => uptoBulkEntry x + uptoBulkEntries r
def uptoBulkEntry {H : Type} : Lit × DataW H → Nat
  | (.string bytes, d) => bytes.length + uptoBulk d + 1
  | (_, d) => uptoBulk d + 1
 end
def uptoSmall : (H : Type) → List (DataW H) → Bool := fun _ ds => decide (uptoBulkAll ds ≤ 1048576)
def OpenSpec.upto (s : _root_.Go.ChangeSpec) : _root_.Go.OpenSpec := { _root_.Go.OpenSpec.ofChange s with cond := some uptoSmall }

/-- 'halidelaw4.CurveNames', WHERE WHAT IT READS IS OF BULK AT MOST 1048576: true; the input reads as it did. -/
def curveNamesUptoRow : OpenClaim := { program := "ytkicfaboibfbpaa", sum := "73e08a516e81a36b911fa2659249c77b3bf0bfd48d23d1a4f528984060924979", func := "halide/halidelaw4.CurveNames", spec := "curveNames", apart := false, narrowed := true }
def CurveNamesUptoSaid : Prop := curveNamesUptoRow.holds Try.pinned (OpenSpec.upto curveNamesSpec)

/-- 'halidelaw4.CurveLeasts', WHERE WHAT IT READS IS OF BULK AT MOST 1048576: true; the input reads as it did. -/
def curveLeastsUptoRow : OpenClaim := { program := "ytkicfaboibfbpaa", sum := "73e08a516e81a36b911fa2659249c77b3bf0bfd48d23d1a4f528984060924979", func := "halide/halidelaw4.CurveLeasts", spec := "curveLeasts", inPlace := ["math.Float32frombits", "math.Float32bits"], unfollowed := true, recurses := true, apart := false, narrowed := true }
def CurveLeastsUptoSaid : Prop := curveLeastsUptoRow.holds Try.pinned (OpenSpec.upto curveLeastsSpec)

/-- 'halidelaw4.CurveAts', WHERE WHAT IT READS IS OF BULK AT MOST 1048576: true; the input reads as it did. -/
def curveAtsUptoRow : OpenClaim := { program := "ytkicfaboibfbpaa", sum := "73e08a516e81a36b911fa2659249c77b3bf0bfd48d23d1a4f528984060924979", func := "halide/halidelaw4.CurveAts", spec := "curveAts", inPlace := ["math.Float32frombits", "math.Float32bits"], unfollowed := true, recurses := true, apart := false, narrowed := true }
def CurveAtsUptoSaid : Prop := curveAtsUptoRow.holds Try.pinned (OpenSpec.upto curveAtsSpec)

/-- 'halidelaw4.CurveRises', WHERE WHAT IT READS IS OF BULK AT MOST 1048576: true; the input reads as it did. -/
def curveRisesUptoRow : OpenClaim := { program := "ytkicfaboibfbpaa", sum := "73e08a516e81a36b911fa2659249c77b3bf0bfd48d23d1a4f528984060924979", func := "halide/halidelaw4.CurveRises", spec := "curveRises", inPlace := ["math.Float32frombits", "math.Float32bits"], unfollowed := true, recurses := true, apart := false, narrowed := true }
def CurveRisesUptoSaid : Prop := curveRisesUptoRow.holds Try.pinned (OpenSpec.upto curveRisesSpec)

/-- 'halidelaw4.CurveTurns', WHERE WHAT IT READS IS OF BULK AT MOST 1048576: true; the input reads as it did. -/
def curveTurnsUptoRow : OpenClaim := { program := "ytkicfaboibfbpaa", sum := "73e08a516e81a36b911fa2659249c77b3bf0bfd48d23d1a4f528984060924979", func := "halide/halidelaw4.CurveTurns", spec := "curveTurns", inPlace := ["math.Float32frombits", "math.Float32bits"], unfollowed := true, recurses := true, apart := false, narrowed := true }
def CurveTurnsUptoSaid : Prop := curveTurnsUptoRow.holds Try.pinned (OpenSpec.upto curveTurnsSpec)

/-- 'halidelaw4.CurveMeets', WHERE WHAT IT READS IS OF BULK AT MOST 1048576: true; the input reads as it did. -/
def curveMeetsUptoRow : OpenClaim := { program := "ytkicfaboibfbpaa", sum := "73e08a516e81a36b911fa2659249c77b3bf0bfd48d23d1a4f528984060924979", func := "halide/halidelaw4.CurveMeets", spec := "curveMeets", inPlace := ["math.Float32frombits", "math.Float32bits"], unfollowed := true, recurses := true, apart := false, narrowed := true }
def CurveMeetsUptoSaid : Prop := curveMeetsUptoRow.holds Try.pinned (OpenSpec.upto curveMeetsSpec)

/-- 'halidelaw4.CurveChains', WHERE WHAT IT READS IS OF BULK AT MOST 1048576: true; the input reads as it did. -/
def curveChainsUptoRow : OpenClaim := { program := "ytkicfaboibfbpaa", sum := "73e08a516e81a36b911fa2659249c77b3bf0bfd48d23d1a4f528984060924979", func := "halide/halidelaw4.CurveChains", spec := "curveChains", inPlace := ["math.Float32frombits", "math.Float32bits"], unfollowed := true, recurses := true, apart := false, narrowed := true }
def CurveChainsUptoSaid : Prop := curveChainsUptoRow.holds Try.pinned (OpenSpec.upto curveChainsSpec)

end Rows
end Go.Proofs.Ytkicfaboibfbpaa
