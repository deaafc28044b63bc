/-
  No cell of these rows narrows 'for every input' (looked for: loops, veiled, ifaces, maps, wideKeys, modest, calm, conditions, laid).
  DERIVED. THE GIVEN ROWS OF THIS SEAT. 9 by the template 'for every input the law returns true; each argument reads behind the call as it read before'; 0 by the template 'total and deterministic' (their statements: YtodlgdpkadkjjaaTotals.lean).
  GIVEN WITH THE SEED: the statements are not yours to turn. If you find one false, say at which input.
  Laid BY PROGRAM, IN A SANDBOX (cutbox-rows.mjs): the forced cells as the released guide's own fill.sh prints them over the translation 710fa7978f905a69… (all of the seat's roots in one cut). By AI agents, Wed Nov 11 2026. No macro, syntax, notation, axiom, sorry.
-/
import Derived.Test.YtodlgdpkadkjjaaChecked
import GoSem.Claim
import GoSem.ClaimJoined
import GoSem.ClaimMapViews
import Derived.JoinedTies
import Derived.KernelRfl
namespace Go.Proofs.Ytodlgdpkadkjjaa
/- THE CELL 'sum', in the pinned program and in every row, IS THE sha256 OF THE DUMP (.gsa) THAT YtodlgdpkadkjjaaProg.lean LOADS. Nothing in Lean hashes anything: it is a label: what it is worth is what the hold of that sum in a sandbox is worth. -/
noncomputable def Try.pinned : Pinned := { name := "ytodlgdpkadkjjaa", sum := "710fa7978f905a69212ccf7b0522d0f93f20dd45ee7fe624d730b105b25ed7f9", checked := Try.checked }
namespace Rows
def none {H : Type} : Left H := { results := [], args := [] }

/-- 'halidelaw14.PyramidNames': WHATEVER THE INPUT: true; the input reads as it did. -/
def pyramidNamesSpec : ChangeSpec := { name := "pyramidNames", fn := fun _ => fun
  | [] => { results := [.lit (.bool true)], args := [] }
  | _ => none }
def pyramidNamesRow : OpenClaim := { program := "ytodlgdpkadkjjaa", sum := "710fa7978f905a69212ccf7b0522d0f93f20dd45ee7fe624d730b105b25ed7f9", func := "halide/halidelaw14.PyramidNames", spec := "pyramidNames", apart := false }
def PyramidNamesSaid : Prop := pyramidNamesRow.holds Try.pinned (OpenSpec.ofChange pyramidNamesSpec)

/-- ITS FALSE NEIGHBOUR: 'it returns false'. Refute it at one input. -/
def pyramidNamesWrong : ChangeSpec := { name := "pyramidNames", fn := fun _ => fun
  | [] => { results := [.lit (.bool false)], args := [] }
  | _ => none }
def PyramidNamesWrongFalsely : Prop := pyramidNamesRow.holds Try.pinned (OpenSpec.ofChange pyramidNamesWrong)

/-- 'halidelaw14.PyramidSizes': WHATEVER THE INPUT: true; the input reads as it did. -/
def pyramidSizesSpec : ChangeSpec := { name := "pyramidSizes", fn := fun _ => fun
  | [d1, d2, d3] => { results := [.lit (.bool true)], args := [d1, d2, d3] }
  | _ => none }
def pyramidSizesRow : OpenClaim := { program := "ytodlgdpkadkjjaa", sum := "710fa7978f905a69212ccf7b0522d0f93f20dd45ee7fe624d730b105b25ed7f9", func := "halide/halidelaw14.PyramidSizes", spec := "pyramidSizes", inPlace := ["math.Float32frombits", "math.Float32bits"], unfollowed := true, recurses := true, apart := false }
def PyramidSizesSaid : Prop := pyramidSizesRow.holds Try.pinned (OpenSpec.ofChange pyramidSizesSpec)

/-- ITS FALSE NEIGHBOUR: 'it returns false'. Refute it at one input. -/
def pyramidSizesWrong : ChangeSpec := { name := "pyramidSizes", fn := fun _ => fun
  | [d1, d2, d3] => { results := [.lit (.bool false)], args := [d1, d2, d3] }
  | _ => none }
def PyramidSizesWrongFalsely : Prop := pyramidSizesRow.holds Try.pinned (OpenSpec.ofChange pyramidSizesWrong)

/-- 'halidelaw14.PyramidConstant': WHATEVER THE INPUT: true; the input reads as it did. -/
def pyramidConstantSpec : ChangeSpec := { name := "pyramidConstant", fn := fun _ => fun
  | [d1, d2, d3] => { results := [.lit (.bool true)], args := [d1, d2, d3] }
  | _ => none }
def pyramidConstantRow : OpenClaim := { program := "ytodlgdpkadkjjaa", sum := "710fa7978f905a69212ccf7b0522d0f93f20dd45ee7fe624d730b105b25ed7f9", func := "halide/halidelaw14.PyramidConstant", spec := "pyramidConstant", inPlace := ["math.Float32frombits", "math.Float32bits"], unfollowed := true, recurses := true, apart := false }
def PyramidConstantSaid : Prop := pyramidConstantRow.holds Try.pinned (OpenSpec.ofChange pyramidConstantSpec)

/-- ITS FALSE NEIGHBOUR: 'it returns false'. Refute it at one input. -/
def pyramidConstantWrong : ChangeSpec := { name := "pyramidConstant", fn := fun _ => fun
  | [d1, d2, d3] => { results := [.lit (.bool false)], args := [d1, d2, d3] }
  | _ => none }
def PyramidConstantWrongFalsely : Prop := pyramidConstantRow.holds Try.pinned (OpenSpec.ofChange pyramidConstantWrong)

/-- 'halidelaw14.PyramidRises': WHATEVER THE INPUT: true; the input reads as it did. -/
def pyramidRisesSpec : ChangeSpec := { name := "pyramidRises", fn := fun _ => fun
  | [d1, d2, d3] => { results := [.lit (.bool true)], args := [d1, d2, d3] }
  | _ => none }
def pyramidRisesRow : OpenClaim := { program := "ytodlgdpkadkjjaa", sum := "710fa7978f905a69212ccf7b0522d0f93f20dd45ee7fe624d730b105b25ed7f9", func := "halide/halidelaw14.PyramidRises", spec := "pyramidRises", inPlace := ["math.Float32frombits", "math.Float32bits"], unfollowed := true, recurses := true, apart := false }
def PyramidRisesSaid : Prop := pyramidRisesRow.holds Try.pinned (OpenSpec.ofChange pyramidRisesSpec)

/-- ITS FALSE NEIGHBOUR: 'it returns false'. Refute it at one input. -/
def pyramidRisesWrong : ChangeSpec := { name := "pyramidRises", fn := fun _ => fun
  | [d1, d2, d3] => { results := [.lit (.bool false)], args := [d1, d2, d3] }
  | _ => none }
def PyramidRisesWrongFalsely : Prop := pyramidRisesRow.holds Try.pinned (OpenSpec.ofChange pyramidRisesWrong)

/-- 'halidelaw14.PyramidNeeds': WHATEVER THE INPUT: true; the input reads as it did. -/
def pyramidNeedsSpec : ChangeSpec := { name := "pyramidNeeds", fn := fun _ => fun
  | [d1, d2, d3, d4] => { results := [.lit (.bool true)], args := [d1, d2, d3, d4] }
  | _ => none }
def pyramidNeedsRow : OpenClaim := { program := "ytodlgdpkadkjjaa", sum := "710fa7978f905a69212ccf7b0522d0f93f20dd45ee7fe624d730b105b25ed7f9", func := "halide/halidelaw14.PyramidNeeds", spec := "pyramidNeeds", inPlace := ["math.Float32frombits", "math.Float32bits"], unfollowed := true, recurses := true, apart := false }
def PyramidNeedsSaid : Prop := pyramidNeedsRow.holds Try.pinned (OpenSpec.ofChange pyramidNeedsSpec)

/-- ITS FALSE NEIGHBOUR: 'it returns false'. Refute it at one input. -/
def pyramidNeedsWrong : ChangeSpec := { name := "pyramidNeeds", fn := fun _ => fun
  | [d1, d2, d3, d4] => { results := [.lit (.bool false)], args := [d1, d2, d3, d4] }
  | _ => none }
def PyramidNeedsWrongFalsely : Prop := pyramidNeedsRow.holds Try.pinned (OpenSpec.ofChange pyramidNeedsWrong)

/-- 'halidelaw14.PyramidSplits': WHATEVER THE INPUT: true; the input reads as it did. -/
def pyramidSplitsSpec : ChangeSpec := { name := "pyramidSplits", fn := fun _ => fun
  | [d1, d2] => { results := [.lit (.bool true)], args := [d1, d2] }
  | _ => none }
def pyramidSplitsRow : OpenClaim := { program := "ytodlgdpkadkjjaa", sum := "710fa7978f905a69212ccf7b0522d0f93f20dd45ee7fe624d730b105b25ed7f9", func := "halide/halidelaw14.PyramidSplits", spec := "pyramidSplits", inPlace := ["math.Float32frombits", "math.Float32bits"], unfollowed := true, recurses := true, apart := false }
def PyramidSplitsSaid : Prop := pyramidSplitsRow.holds Try.pinned (OpenSpec.ofChange pyramidSplitsSpec)

/-- ITS FALSE NEIGHBOUR: 'it returns false'. Refute it at one input. -/
def pyramidSplitsWrong : ChangeSpec := { name := "pyramidSplits", fn := fun _ => fun
  | [d1, d2] => { results := [.lit (.bool false)], args := [d1, d2] }
  | _ => none }
def PyramidSplitsWrongFalsely : Prop := pyramidSplitsRow.holds Try.pinned (OpenSpec.ofChange pyramidSplitsWrong)

/-- 'halidelaw14.PyramidAgain': WHATEVER THE INPUT: true; the input reads as it did. -/
def pyramidAgainSpec : ChangeSpec := { name := "pyramidAgain", fn := fun _ => fun
  | [d1, d2] => { results := [.lit (.bool true)], args := [d1, d2] }
  | _ => none }
def pyramidAgainRow : OpenClaim := { program := "ytodlgdpkadkjjaa", sum := "710fa7978f905a69212ccf7b0522d0f93f20dd45ee7fe624d730b105b25ed7f9", func := "halide/halidelaw14.PyramidAgain", spec := "pyramidAgain", inPlace := ["math.Float32frombits", "math.Float32bits"], unfollowed := true, recurses := true, apart := false }
def PyramidAgainSaid : Prop := pyramidAgainRow.holds Try.pinned (OpenSpec.ofChange pyramidAgainSpec)

/-- ITS FALSE NEIGHBOUR: 'it returns false'. Refute it at one input. -/
def pyramidAgainWrong : ChangeSpec := { name := "pyramidAgain", fn := fun _ => fun
  | [d1, d2] => { results := [.lit (.bool false)], args := [d1, d2] }
  | _ => none }
def PyramidAgainWrongFalsely : Prop := pyramidAgainRow.holds Try.pinned (OpenSpec.ofChange pyramidAgainWrong)

/-- 'halidelaw14.PyramidLevels': WHATEVER THE INPUT: true; the input reads as it did. -/
def pyramidLevelsSpec : ChangeSpec := { name := "pyramidLevels", fn := fun _ => fun
  | [d1, d2, d3] => { results := [.lit (.bool true)], args := [d1, d2, d3] }
  | _ => none }
def pyramidLevelsRow : OpenClaim := { program := "ytodlgdpkadkjjaa", sum := "710fa7978f905a69212ccf7b0522d0f93f20dd45ee7fe624d730b105b25ed7f9", func := "halide/halidelaw14.PyramidLevels", spec := "pyramidLevels", inPlace := ["math.Float32frombits", "math.Float32bits"], unfollowed := true, recurses := true, apart := false }
def PyramidLevelsSaid : Prop := pyramidLevelsRow.holds Try.pinned (OpenSpec.ofChange pyramidLevelsSpec)

/-- ITS FALSE NEIGHBOUR: 'it returns false'. Refute it at one input. -/
def pyramidLevelsWrong : ChangeSpec := { name := "pyramidLevels", fn := fun _ => fun
  | [d1, d2, d3] => { results := [.lit (.bool false)], args := [d1, d2, d3] }
  | _ => none }
def PyramidLevelsWrongFalsely : Prop := pyramidLevelsRow.holds Try.pinned (OpenSpec.ofChange pyramidLevelsWrong)

/-- 'halidelaw14.PyramidBack': WHATEVER THE INPUT: true; the input reads as it did. -/
def pyramidBackSpec : ChangeSpec := { name := "pyramidBack", fn := fun _ => fun
  | [d1, d2] => { results := [.lit (.bool true)], args := [d1, d2] }
  | _ => none }
def pyramidBackRow : OpenClaim := { program := "ytodlgdpkadkjjaa", sum := "710fa7978f905a69212ccf7b0522d0f93f20dd45ee7fe624d730b105b25ed7f9", func := "halide/halidelaw14.PyramidBack", spec := "pyramidBack", inPlace := ["math.Float32frombits", "math.Float32bits"], unfollowed := true, recurses := true, apart := false }
def PyramidBackSaid : Prop := pyramidBackRow.holds Try.pinned (OpenSpec.ofChange pyramidBackSpec)

/-- ITS FALSE NEIGHBOUR: 'it returns false'. Refute it at one input. -/
def pyramidBackWrong : ChangeSpec := { name := "pyramidBack", fn := fun _ => fun
  | [d1, d2] => { results := [.lit (.bool false)], args := [d1, d2] }
  | _ => none }
def PyramidBackWrongFalsely : Prop := pyramidBackRow.holds Try.pinned (OpenSpec.ofChange pyramidBackWrong)

/- THE SECOND FORM. 'bulk': how many values and letters a reading holds, each counted each time it is reached (what is shared counts as often as it is met; a slice's spare places count too). A statement '..UptoSaid' is the law's where the arguments, and the package variables that the reading takes, are together of bulk at most 1048576: NARROWER than '..Said'. Prove '..Said' where nothing that the law and all that it calls make is longer than what came in: it says more and counts as full. Else prove '..UptoSaid'. A law counts once. -/
mutual
def uptoBulk {H : Type} : DataW H → Nat
  | .lit (.string bytes) => bytes.length + 1
  | .lit _ => 1
  | .nil => 1
  | .ptr d => uptoBulk d + 1
  | .slice elems spare => uptoBulkAll elems + uptoBulkAll spare + 1
  | .agg parts => uptoBulkAll parts + 1
  | .iface _ d => uptoBulk d + 1
  | .map entries => uptoBulkEntries entries + 1
  | .held _ => 1
def uptoBulkAll {H : Type} : List (DataW H) → Nat
  | [] => 0
  | d :: r => uptoBulk d + uptoBulkAll r
def uptoBulkEntries {H : Type} : List (Lit × DataW H) → Nat
  | [] => 0
  | x :: r => uptoBulkEntry x + uptoBulkEntries r
def uptoBulkEntry {H : Type} : Lit × DataW H → Nat
  | (.string bytes, d) => bytes.length + uptoBulk d + 1
  | (_, d) => uptoBulk d + 1
 end
def uptoSmall : (H : Type) → List (DataW H) → Bool := fun _ ds => decide (uptoBulkAll ds ≤ 1048576)
def OpenSpec.upto (s : _root_.Go.ChangeSpec) : _root_.Go.OpenSpec := { _root_.Go.OpenSpec.ofChange s with cond := some uptoSmall }

/-- 'halidelaw14.PyramidNames', WHERE WHAT IT READS IS OF BULK AT MOST 1048576: true; the input reads as it did. -/
def pyramidNamesUptoRow : OpenClaim := { program := "ytodlgdpkadkjjaa", sum := "710fa7978f905a69212ccf7b0522d0f93f20dd45ee7fe624d730b105b25ed7f9", func := "halide/halidelaw14.PyramidNames", spec := "pyramidNames", apart := false, narrowed := true }
def PyramidNamesUptoSaid : Prop := pyramidNamesUptoRow.holds Try.pinned (OpenSpec.upto pyramidNamesSpec)

/-- 'halidelaw14.PyramidSizes', WHERE WHAT IT READS IS OF BULK AT MOST 1048576: true; the input reads as it did. -/
def pyramidSizesUptoRow : OpenClaim := { program := "ytodlgdpkadkjjaa", sum := "710fa7978f905a69212ccf7b0522d0f93f20dd45ee7fe624d730b105b25ed7f9", func := "halide/halidelaw14.PyramidSizes", spec := "pyramidSizes", inPlace := ["math.Float32frombits", "math.Float32bits"], unfollowed := true, recurses := true, apart := false, narrowed := true }
def PyramidSizesUptoSaid : Prop := pyramidSizesUptoRow.holds Try.pinned (OpenSpec.upto pyramidSizesSpec)

/-- 'halidelaw14.PyramidConstant', WHERE WHAT IT READS IS OF BULK AT MOST 1048576: true; the input reads as it did. -/
def pyramidConstantUptoRow : OpenClaim := { program := "ytodlgdpkadkjjaa", sum := "710fa7978f905a69212ccf7b0522d0f93f20dd45ee7fe624d730b105b25ed7f9", func := "halide/halidelaw14.PyramidConstant", spec := "pyramidConstant", inPlace := ["math.Float32frombits", "math.Float32bits"], unfollowed := true, recurses := true, apart := false, narrowed := true }
def PyramidConstantUptoSaid : Prop := pyramidConstantUptoRow.holds Try.pinned (OpenSpec.upto pyramidConstantSpec)

/-- 'halidelaw14.PyramidRises', WHERE WHAT IT READS IS OF BULK AT MOST 1048576: true; the input reads as it did. -/
def pyramidRisesUptoRow : OpenClaim := { program := "ytodlgdpkadkjjaa", sum := "710fa7978f905a69212ccf7b0522d0f93f20dd45ee7fe624d730b105b25ed7f9", func := "halide/halidelaw14.PyramidRises", spec := "pyramidRises", inPlace := ["math.Float32frombits", "math.Float32bits"], unfollowed := true, recurses := true, apart := false, narrowed := true }
def PyramidRisesUptoSaid : Prop := pyramidRisesUptoRow.holds Try.pinned (OpenSpec.upto pyramidRisesSpec)

/-- 'halidelaw14.PyramidNeeds', WHERE WHAT IT READS IS OF BULK AT MOST 1048576: true; the input reads as it did. -/
def pyramidNeedsUptoRow : OpenClaim := { program := "ytodlgdpkadkjjaa", sum := "710fa7978f905a69212ccf7b0522d0f93f20dd45ee7fe624d730b105b25ed7f9", func := "halide/halidelaw14.PyramidNeeds", spec := "pyramidNeeds", inPlace := ["math.Float32frombits", "math.Float32bits"], unfollowed := true, recurses := true, apart := false, narrowed := true }
def PyramidNeedsUptoSaid : Prop := pyramidNeedsUptoRow.holds Try.pinned (OpenSpec.upto pyramidNeedsSpec)

/-- 'halidelaw14.PyramidSplits', WHERE WHAT IT READS IS OF BULK AT MOST 1048576: true; the input reads as it did. -/
def pyramidSplitsUptoRow : OpenClaim := { program := "ytodlgdpkadkjjaa", sum := "710fa7978f905a69212ccf7b0522d0f93f20dd45ee7fe624d730b105b25ed7f9", func := "halide/halidelaw14.PyramidSplits", spec := "pyramidSplits", inPlace := ["math.Float32frombits", "math.Float32bits"], unfollowed := true, recurses := true, apart := false, narrowed := true }
def PyramidSplitsUptoSaid : Prop := pyramidSplitsUptoRow.holds Try.pinned (OpenSpec.upto pyramidSplitsSpec)

/-- 'halidelaw14.PyramidAgain', WHERE WHAT IT READS IS OF BULK AT MOST 1048576: true; the input reads as it did. -/
def pyramidAgainUptoRow : OpenClaim := { program := "ytodlgdpkadkjjaa", sum := "710fa7978f905a69212ccf7b0522d0f93f20dd45ee7fe624d730b105b25ed7f9", func := "halide/halidelaw14.PyramidAgain", spec := "pyramidAgain", inPlace := ["math.Float32frombits", "math.Float32bits"], unfollowed := true, recurses := true, apart := false, narrowed := true }
def PyramidAgainUptoSaid : Prop := pyramidAgainUptoRow.holds Try.pinned (OpenSpec.upto pyramidAgainSpec)

/-- 'halidelaw14.PyramidLevels', WHERE WHAT IT READS IS OF BULK AT MOST 1048576: true; the input reads as it did. -/
def pyramidLevelsUptoRow : OpenClaim := { program := "ytodlgdpkadkjjaa", sum := "710fa7978f905a69212ccf7b0522d0f93f20dd45ee7fe624d730b105b25ed7f9", func := "halide/halidelaw14.PyramidLevels", spec := "pyramidLevels", inPlace := ["math.Float32frombits", "math.Float32bits"], unfollowed := true, recurses := true, apart := false, narrowed := true }
def PyramidLevelsUptoSaid : Prop := pyramidLevelsUptoRow.holds Try.pinned (OpenSpec.upto pyramidLevelsSpec)

/-- 'halidelaw14.PyramidBack', WHERE WHAT IT READS IS OF BULK AT MOST 1048576: true; the input reads as it did. -/
def pyramidBackUptoRow : OpenClaim := { program := "ytodlgdpkadkjjaa", sum := "710fa7978f905a69212ccf7b0522d0f93f20dd45ee7fe624d730b105b25ed7f9", func := "halide/halidelaw14.PyramidBack", spec := "pyramidBack", inPlace := ["math.Float32frombits", "math.Float32bits"], unfollowed := true, recurses := true, apart := false, narrowed := true }
def PyramidBackUptoSaid : Prop := pyramidBackUptoRow.holds Try.pinned (OpenSpec.upto pyramidBackSpec)

end Rows
end Go.Proofs.Ytodlgdpkadkjjaa
