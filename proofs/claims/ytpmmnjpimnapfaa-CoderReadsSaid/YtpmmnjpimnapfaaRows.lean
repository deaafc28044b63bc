/-
  No cell of these rows narrows 'for every input' (looked for: loops, veiled, ifaces, maps, wideKeys, modest, calm, conditions, laid).
  DERIVED. THE GIVEN ROWS OF THIS SEAT. 7 by the template 'for every input the law returns true; each argument reads behind the call as it read before'; 0 by the template 'total and deterministic' (their statements: YtpmmnjpimnapfaaTotals.lean).
  GIVEN WITH THE SEED: the statements are not yours to turn. If you find one false, say at which input.
  Laid BY PROGRAM, IN A SANDBOX (cutbox-rows.mjs): the forced cells as the released guide's own fill.sh prints them over the translation 471dc97304dc7569… (all of the seat's roots in one cut). By AI agents, Wed Nov 11 2026. No macro, syntax, notation, axiom, sorry.
-/
import Derived.Test.YtpmmnjpimnapfaaChecked
import GoSem.Claim
import GoSem.ClaimJoined
import GoSem.ClaimMapViews
import Derived.JoinedTies
import Derived.KernelRfl
namespace Go.Proofs.Ytpmmnjpimnapfaa
/- THE CELL 'sum', in the pinned program and in every row, IS THE sha256 OF THE DUMP (.gsa) THAT YtpmmnjpimnapfaaProg.lean LOADS. Nothing in Lean hashes anything: it is a label: what it is worth is what the hold of that sum in a sandbox is worth. -/
noncomputable def Try.pinned : Pinned := { name := "ytpmmnjpimnapfaa", sum := "471dc97304dc7569e5f945978720f2850efdd30e07f41b64c98b2db181bf6322", checked := Try.checked }
namespace Rows
def none {H : Type} : Left H := { results := [], args := [] }

/-- 'halidelaw17.CoderNames': WHATEVER THE INPUT: true; the input reads as it did. -/
def coderNamesSpec : ChangeSpec := { name := "coderNames", fn := fun _ => fun
  | [] => { results := [.lit (.bool true)], args := [] }
  | _ => none }
def coderNamesRow : OpenClaim := { program := "ytpmmnjpimnapfaa", sum := "471dc97304dc7569e5f945978720f2850efdd30e07f41b64c98b2db181bf6322", func := "halide/halidelaw17.CoderNames", spec := "coderNames", apart := false }
def CoderNamesSaid : Prop := coderNamesRow.holds Try.pinned (OpenSpec.ofChange coderNamesSpec)

/-- ITS FALSE NEIGHBOUR: 'it returns false'. Refute it at one input. -/
def coderNamesWrong : ChangeSpec := { name := "coderNames", fn := fun _ => fun
  | [] => { results := [.lit (.bool false)], args := [] }
  | _ => none }
def CoderNamesWrongFalsely : Prop := coderNamesRow.holds Try.pinned (OpenSpec.ofChange coderNamesWrong)

/-- 'halidelaw17.CoderFolds': WHATEVER THE INPUT: true; the input reads as it did. -/
def coderFoldsSpec : ChangeSpec := { name := "coderFolds", fn := fun _ => fun
  | [d] => { results := [.lit (.bool true)], args := [d] }
  | _ => none }
def coderFoldsRow : OpenClaim := { program := "ytpmmnjpimnapfaa", sum := "471dc97304dc7569e5f945978720f2850efdd30e07f41b64c98b2db181bf6322", func := "halide/halidelaw17.CoderFolds", spec := "coderFolds", unfollowed := true, recurses := true, apart := false }
def CoderFoldsSaid : Prop := coderFoldsRow.holds Try.pinned (OpenSpec.ofChange coderFoldsSpec)

/-- ITS FALSE NEIGHBOUR: 'it returns false'. Refute it at one input. -/
def coderFoldsWrong : ChangeSpec := { name := "coderFolds", fn := fun _ => fun
  | [d] => { results := [.lit (.bool false)], args := [d] }
  | _ => none }
def CoderFoldsWrongFalsely : Prop := coderFoldsRow.holds Try.pinned (OpenSpec.ofChange coderFoldsWrong)

/-- 'halidelaw17.CoderWrites': WHATEVER THE INPUT: true; the input reads as it did. -/
def coderWritesSpec : ChangeSpec := { name := "coderWrites", fn := fun _ => fun
  | [d] => { results := [.lit (.bool true)], args := [d] }
  | _ => none }
def coderWritesRow : OpenClaim := { program := "ytpmmnjpimnapfaa", sum := "471dc97304dc7569e5f945978720f2850efdd30e07f41b64c98b2db181bf6322", func := "halide/halidelaw17.CoderWrites", spec := "coderWrites", unfollowed := true, recurses := true, apart := false }
def CoderWritesSaid : Prop := coderWritesRow.holds Try.pinned (OpenSpec.ofChange coderWritesSpec)

/-- ITS FALSE NEIGHBOUR: 'it returns false'. Refute it at one input. -/
def coderWritesWrong : ChangeSpec := { name := "coderWrites", fn := fun _ => fun
  | [d] => { results := [.lit (.bool false)], args := [d] }
  | _ => none }
def CoderWritesWrongFalsely : Prop := coderWritesRow.holds Try.pinned (OpenSpec.ofChange coderWritesWrong)

/-- 'halidelaw17.CoderReads': WHATEVER THE INPUT: true; the input reads as it did. -/
def coderReadsSpec : ChangeSpec := { name := "coderReads", fn := fun _ => fun
  | [d1, d2] => { results := [.lit (.bool true)], args := [d1, d2] }
  | _ => none }
def coderReadsRow : OpenClaim := { program := "ytpmmnjpimnapfaa", sum := "471dc97304dc7569e5f945978720f2850efdd30e07f41b64c98b2db181bf6322", func := "halide/halidelaw17.CoderReads", spec := "coderReads", unfollowed := true, recurses := true, apart := false }
def CoderReadsSaid : Prop := coderReadsRow.holds Try.pinned (OpenSpec.ofChange coderReadsSpec)

/-- ITS FALSE NEIGHBOUR: 'it returns false'. Refute it at one input. -/
def coderReadsWrong : ChangeSpec := { name := "coderReads", fn := fun _ => fun
  | [d1, d2] => { results := [.lit (.bool false)], args := [d1, d2] }
  | _ => none }
def CoderReadsWrongFalsely : Prop := coderReadsRow.holds Try.pinned (OpenSpec.ofChange coderReadsWrong)

/-- 'halidelaw17.CoderBack': WHATEVER THE INPUT: true; the input reads as it did. -/
def coderBackSpec : ChangeSpec := { name := "coderBack", fn := fun _ => fun
  | [d1, d2] => { results := [.lit (.bool true)], args := [d1, d2] }
  | _ => none }
def coderBackRow : OpenClaim := { program := "ytpmmnjpimnapfaa", sum := "471dc97304dc7569e5f945978720f2850efdd30e07f41b64c98b2db181bf6322", func := "halide/halidelaw17.CoderBack", spec := "coderBack", unfollowed := true, recurses := true, apart := false }
def CoderBackSaid : Prop := coderBackRow.holds Try.pinned (OpenSpec.ofChange coderBackSpec)

/-- ITS FALSE NEIGHBOUR: 'it returns false'. Refute it at one input. -/
def coderBackWrong : ChangeSpec := { name := "coderBack", fn := fun _ => fun
  | [d1, d2] => { results := [.lit (.bool false)], args := [d1, d2] }
  | _ => none }
def CoderBackWrongFalsely : Prop := coderBackRow.holds Try.pinned (OpenSpec.ofChange coderBackWrong)

/-- 'halidelaw17.CoderOne': WHATEVER THE INPUT: true; the input reads as it did. -/
def coderOneSpec : ChangeSpec := { name := "coderOne", fn := fun _ => fun
  | [d1, d2] => { results := [.lit (.bool true)], args := [d1, d2] }
  | _ => none }
def coderOneRow : OpenClaim := { program := "ytpmmnjpimnapfaa", sum := "471dc97304dc7569e5f945978720f2850efdd30e07f41b64c98b2db181bf6322", func := "halide/halidelaw17.CoderOne", spec := "coderOne", unfollowed := true, recurses := true, apart := false }
def CoderOneSaid : Prop := coderOneRow.holds Try.pinned (OpenSpec.ofChange coderOneSpec)

/-- ITS FALSE NEIGHBOUR: 'it returns false'. Refute it at one input. -/
def coderOneWrong : ChangeSpec := { name := "coderOne", fn := fun _ => fun
  | [d1, d2] => { results := [.lit (.bool false)], args := [d1, d2] }
  | _ => none }
def CoderOneWrongFalsely : Prop := coderOneRow.holds Try.pinned (OpenSpec.ofChange coderOneWrong)

/-- 'halidelaw17.CoderFolded': WHATEVER THE INPUT: true; the input reads as it did. -/
def coderFoldedSpec : ChangeSpec := { name := "coderFolded", fn := fun _ => fun
  | [d] => { results := [.lit (.bool true)], args := [d] }
  | _ => none }
def coderFoldedRow : OpenClaim := { program := "ytpmmnjpimnapfaa", sum := "471dc97304dc7569e5f945978720f2850efdd30e07f41b64c98b2db181bf6322", func := "halide/halidelaw17.CoderFolded", spec := "coderFolded", unfollowed := true, recurses := true, apart := false }
def CoderFoldedSaid : Prop := coderFoldedRow.holds Try.pinned (OpenSpec.ofChange coderFoldedSpec)

/-- ITS FALSE NEIGHBOUR: 'it returns false'. Refute it at one input. -/
def coderFoldedWrong : ChangeSpec := { name := "coderFolded", fn := fun _ => fun
  | [d] => { results := [.lit (.bool false)], args := [d] }
  | _ => none }
def CoderFoldedWrongFalsely : Prop := coderFoldedRow.holds Try.pinned (OpenSpec.ofChange coderFoldedWrong)

/- THE SECOND FORM. 'bulk': how many values and letters a reading holds, each counted each time it is reached (what is shared counts as often as it is met; a slice's spare places count too). A statement '..UptoSaid' is the law's where the arguments, and the package variables that the reading takes, are together of bulk at most 1048576: NARROWER than '..Said'. Prove '..Said' where nothing that the law and all that it calls make is longer than what came in: it says more and counts as full. Else prove '..UptoSaid'. A law counts once. -/
mutual
def uptoBulk {H : Type} : DataW H → Nat
  | .lit (.string bytes) => bytes.length + 1
  | .lit _ => 1
  | .nil => 1
  | .ptr d => uptoBulk d + 1
  | .slice elems spare => uptoBulkAll elems + uptoBulkAll spare + 1
  | .agg parts => uptoBulkAll parts + 1
  | .iface _ d => uptoBulk d + 1
  | .map entries => uptoBulkEntries entries + 1
  | .held _ => 1
def uptoBulkAll {H : Type} : List (DataW H) → Nat
  | [] => 0
  | d :: r => uptoBulk d + uptoBulkAll r
def uptoBulkEntries {H : Type} : List (Lit × DataW H) → Nat
  | [] => 0
  | x :: r => uptoBulkEntry x + uptoBulkEntries r
def uptoBulkEntry {H : Type} : Lit × DataW H → Nat
  | (.string bytes, d) => bytes.length + uptoBulk d + 1
  | (_, d) => uptoBulk d + 1
 end
def uptoSmall : (H : Type) → List (DataW H) → Bool := fun _ ds => decide (uptoBulkAll ds ≤ 1048576)
def OpenSpec.upto (s : _root_.Go.ChangeSpec) : _root_.Go.OpenSpec := { _root_.Go.OpenSpec.ofChange s with cond := some uptoSmall }

/-- 'halidelaw17.CoderNames', WHERE WHAT IT READS IS OF BULK AT MOST 1048576: true; the input reads as it did. -/
def coderNamesUptoRow : OpenClaim := { program := "ytpmmnjpimnapfaa", sum := "471dc97304dc7569e5f945978720f2850efdd30e07f41b64c98b2db181bf6322", func := "halide/halidelaw17.CoderNames", spec := "coderNames", apart := false, narrowed := true }
def CoderNamesUptoSaid : Prop := coderNamesUptoRow.holds Try.pinned (OpenSpec.upto coderNamesSpec)

/-- 'halidelaw17.CoderFolds', WHERE WHAT IT READS IS OF BULK AT MOST 1048576: true; the input reads as it did. -/
def coderFoldsUptoRow : OpenClaim := { program := "ytpmmnjpimnapfaa", sum := "471dc97304dc7569e5f945978720f2850efdd30e07f41b64c98b2db181bf6322", func := "halide/halidelaw17.CoderFolds", spec := "coderFolds", unfollowed := true, recurses := true, apart := false, narrowed := true }
def CoderFoldsUptoSaid : Prop := coderFoldsUptoRow.holds Try.pinned (OpenSpec.upto coderFoldsSpec)

/-- 'halidelaw17.CoderWrites', WHERE WHAT IT READS IS OF BULK AT MOST 1048576: true; the input reads as it did. -/
def coderWritesUptoRow : OpenClaim := { program := "ytpmmnjpimnapfaa", sum := "471dc97304dc7569e5f945978720f2850efdd30e07f41b64c98b2db181bf6322", func := "halide/halidelaw17.CoderWrites", spec := "coderWrites", unfollowed := true, recurses := true, apart := false, narrowed := true }
def CoderWritesUptoSaid : Prop := coderWritesUptoRow.holds Try.pinned (OpenSpec.upto coderWritesSpec)

/-- 'halidelaw17.CoderReads', WHERE WHAT IT READS IS OF BULK AT MOST 1048576: true; the input reads as it did. -/
def coderReadsUptoRow : OpenClaim := { program := "ytpmmnjpimnapfaa", sum := "471dc97304dc7569e5f945978720f2850efdd30e07f41b64c98b2db181bf6322", func := "halide/halidelaw17.CoderReads", spec := "coderReads", unfollowed := true, recurses := true, apart := false, narrowed := true }
def CoderReadsUptoSaid : Prop := coderReadsUptoRow.holds Try.pinned (OpenSpec.upto coderReadsSpec)

/-- 'halidelaw17.CoderBack', WHERE WHAT IT READS IS OF BULK AT MOST 1048576: true; the input reads as it did. -/
def coderBackUptoRow : OpenClaim := { program := "ytpmmnjpimnapfaa", sum := "471dc97304dc7569e5f945978720f2850efdd30e07f41b64c98b2db181bf6322", func := "halide/halidelaw17.CoderBack", spec := "coderBack", unfollowed := true, recurses := true, apart := false, narrowed := true }
def CoderBackUptoSaid : Prop := coderBackUptoRow.holds Try.pinned (OpenSpec.upto coderBackSpec)

/-- 'halidelaw17.CoderOne', WHERE WHAT IT READS IS OF BULK AT MOST 1048576: true; the input reads as it did. -/
def coderOneUptoRow : OpenClaim := { program := "ytpmmnjpimnapfaa", sum := "471dc97304dc7569e5f945978720f2850efdd30e07f41b64c98b2db181bf6322", func := "halide/halidelaw17.CoderOne", spec := "coderOne", unfollowed := true, recurses := true, apart := false, narrowed := true }
def CoderOneUptoSaid : Prop := coderOneUptoRow.holds Try.pinned (OpenSpec.upto coderOneSpec)

/-- 'halidelaw17.CoderFolded', WHERE WHAT IT READS IS OF BULK AT MOST 1048576: true; the input reads as it did. -/
def coderFoldedUptoRow : OpenClaim := { program := "ytpmmnjpimnapfaa", sum := "471dc97304dc7569e5f945978720f2850efdd30e07f41b64c98b2db181bf6322", func := "halide/halidelaw17.CoderFolded", spec := "coderFolded", unfollowed := true, recurses := true, apart := false, narrowed := true }
def CoderFoldedUptoSaid : Prop := coderFoldedUptoRow.holds Try.pinned (OpenSpec.upto coderFoldedSpec)

end Rows
end Go.Proofs.Ytpmmnjpimnapfaa
