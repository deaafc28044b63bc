/-
  No cell of these rows narrows 'for every input' (looked for: loops, veiled, ifaces, maps, wideKeys, modest, calm, conditions, laid).
  DERIVED. THE GIVEN ROWS OF THIS SEAT. 2 by the template 'for every input the law returns true; each argument reads behind the call as it read before'; 0 by the template 'total and deterministic' (their statements: YtidbmmhfeadkcaaTotals.lean).
  GIVEN WITH THE SEED: the statements are not yours to turn. If you find one false, say at which input.
  Laid BY PROGRAM, IN A SANDBOX (cutbox-rows.mjs): the forced cells as the released guide's own fill.sh prints them over the translation 86f5d813c9ee6ac1… (all of the seat's roots in one cut). By AI agents, Wed Nov 11 2026. No macro, syntax, notation, axiom, sorry.
-/
import Derived.Test.YtidbmmhfeadkcaaChecked
import GoSem.Claim
import GoSem.ClaimJoined
import GoSem.ClaimMapViews
import Derived.JoinedTies
import Derived.KernelRfl
namespace Go.Proofs.Ytidbmmhfeadkcaa
/- THE CELL 'sum', in the pinned program and in every row, IS THE sha256 OF THE DUMP (.gsa) THAT YtidbmmhfeadkcaaProg.lean LOADS. Nothing in Lean hashes anything: it is a label: what it is worth is what the hold of that sum in a sandbox is worth. -/
noncomputable def Try.pinned : Pinned := { name := "ytidbmmhfeadkcaa", sum := "86f5d813c9ee6ac1db562856e2b188fd52e3312c73f31eb07b89de2b3efa6214", checked := Try.checked }
namespace Rows
def none {H : Type} : Left H := { results := [], args := [] }

/-- 'halidelaw31.RungsNames': WHATEVER THE INPUT: true; the input reads as it did. -/
def rungsNamesSpec : ChangeSpec := { name := "rungsNames", fn := fun _ => fun
  | [] => { results := [.lit (.bool true)], args := [] }
  | _ => none }
def rungsNamesRow : OpenClaim := { program := "ytidbmmhfeadkcaa", sum := "86f5d813c9ee6ac1db562856e2b188fd52e3312c73f31eb07b89de2b3efa6214", func := "halide/halidelaw31.RungsNames", spec := "rungsNames", apart := false }
def RungsNamesSaid : Prop := rungsNamesRow.holds Try.pinned (OpenSpec.ofChange rungsNamesSpec)

/-- ITS FALSE NEIGHBOUR: 'it returns false'. Refute it at one input. -/
def rungsNamesWrong : ChangeSpec := { name := "rungsNames", fn := fun _ => fun
  | [] => { results := [.lit (.bool false)], args := [] }
  | _ => none }
def RungsNamesWrongFalsely : Prop := rungsNamesRow.holds Try.pinned (OpenSpec.ofChange rungsNamesWrong)

/-- 'halidelaw31.RungsBack': WHATEVER THE INPUT: true; the input reads as it did. -/
def rungsBackSpec : ChangeSpec := { name := "rungsBack", fn := fun _ => fun
  | [d1, d2, d3, d4, d5] => { results := [.lit (.bool true)], args := [d1, d2, d3, d4, d5] }
  | _ => none }
def rungsBackRow : OpenClaim := { program := "ytidbmmhfeadkcaa", sum := "86f5d813c9ee6ac1db562856e2b188fd52e3312c73f31eb07b89de2b3efa6214", func := "halide/halidelaw31.RungsBack", spec := "rungsBack", inPlace := ["math.Float32frombits", "math.Float32bits"], unfollowed := true, recurses := true, apart := false }
def RungsBackSaid : Prop := rungsBackRow.holds Try.pinned (OpenSpec.ofChange rungsBackSpec)

/-- ITS FALSE NEIGHBOUR: 'it returns false'. Refute it at one input. -/
def rungsBackWrong : ChangeSpec := { name := "rungsBack", fn := fun _ => fun
  | [d1, d2, d3, d4, d5] => { results := [.lit (.bool false)], args := [d1, d2, d3, d4, d5] }
  | _ => none }
def RungsBackWrongFalsely : Prop := rungsBackRow.holds Try.pinned (OpenSpec.ofChange rungsBackWrong)

/- THE SECOND FORM. 'bulk': how many values and letters a reading holds, each counted each time it is reached (what is shared counts as often as it is met; a slice's spare places count too). A statement '..UptoSaid' is the law's where the arguments, and the package variables that the reading takes, are together of bulk at most 1048576: NARROWER than '..Said'. Prove '..Said' where nothing that the law and all that it calls make is longer than what came in: it says more and counts as full. Else prove '..UptoSaid'. A law counts once. -/
mutual
def uptoBulk {H : Type} : DataW H → Nat
  | .lit (.string bytes) => bytes.length + 1
  | .lit _ => 1
  | .nil => 1
  | .ptr d => uptoBulk d + 1
  | .slice elems spare => uptoBulkAll elems + uptoBulkAll spare + 1
  | .agg parts => uptoBulkAll parts + 1
  | .iface _ d => uptoBulk d + 1
  | .map entries => uptoBulkEntries entries + 1
  | .held _ => 1
def uptoBulkAll {H : Type} : List (DataW H) → Nat
  | [] => 0
  | d :: r => uptoBulk d + uptoBulkAll r
def uptoBulkEntries {H : Type} : List (Lit × DataW H) → Nat
  | [] => 0
  | x :: r => uptoBulkEntry x + uptoBulkEntries r
def uptoBulkEntry {H : Type} : Lit × DataW H → Nat
  | (.string bytes, d) => bytes.length + uptoBulk d + 1
  | (_, d) => uptoBulk d + 1
 end
def uptoSmall : (H : Type) → List (DataW H) → Bool := fun _ ds => decide (uptoBulkAll ds ≤ 1048576)
def OpenSpec.upto (s : _root_.Go.ChangeSpec) : _root_.Go.OpenSpec := { _root_.Go.OpenSpec.ofChange s with cond := some uptoSmall }

/-- 'halidelaw31.RungsNames', WHERE WHAT IT READS IS OF BULK AT MOST 1048576: true; the input reads as it did. -/
def rungsNamesUptoRow : OpenClaim := { program := "ytidbmmhfeadkcaa", sum := "86f5d813c9ee6ac1db562856e2b188fd52e3312c73f31eb07b89de2b3efa6214", func := "halide/halidelaw31.RungsNames", spec := "rungsNames", apart := false, narrowed := true }
def RungsNamesUptoSaid : Prop := rungsNamesUptoRow.holds Try.pinned (OpenSpec.upto rungsNamesSpec)

/-- 'halidelaw31.RungsBack', WHERE WHAT IT READS IS OF BULK AT MOST 1048576: true; the input reads as it did. -/
def rungsBackUptoRow : OpenClaim := { program := "ytidbmmhfeadkcaa", sum := "86f5d813c9ee6ac1db562856e2b188fd52e3312c73f31eb07b89de2b3efa6214", func := "halide/halidelaw31.RungsBack", spec := "rungsBack", inPlace := ["math.Float32frombits", "math.Float32bits"], unfollowed := true, recurses := true, apart := false, narrowed := true }
def RungsBackUptoSaid : Prop := rungsBackUptoRow.holds Try.pinned (OpenSpec.upto rungsBackSpec)

end Rows
end Go.Proofs.Ytidbmmhfeadkcaa
