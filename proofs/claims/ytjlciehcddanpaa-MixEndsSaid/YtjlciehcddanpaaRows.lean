/-
  No cell of these rows narrows 'for every input' (looked for: loops, veiled, ifaces, maps, wideKeys, modest, calm, conditions, laid).
  DERIVED. THE GIVEN ROWS OF THIS SEAT. 7 by the template 'for every input the law returns true; each argument reads behind the call as it read before'; 0 by the template 'total and deterministic' (their statements: YtjlciehcddanpaaTotals.lean).
  GIVEN WITH THE SEED: the statements are not yours to turn. If you find one false, say at which input.
  Laid BY PROGRAM, IN A SANDBOX (cutbox-rows.mjs): the forced cells as the released guide's own fill.sh prints them over the translation 9ed2ccfd5fd0819d… (all of the seat's roots in one cut). By AI agents, Wed Nov 11 2026. No macro, syntax, notation, axiom, sorry.
-/
import Derived.Test.YtjlciehcddanpaaChecked
import GoSem.Claim
import GoSem.ClaimJoined
import GoSem.ClaimMapViews
import Derived.JoinedTies
import Derived.KernelRfl
namespace Go.Proofs.Ytjlciehcddanpaa
/- THE CELL 'sum', in the pinned program and in every row, IS THE sha256 OF THE DUMP (.gsa) THAT YtjlciehcddanpaaProg.lean LOADS. Nothing in Lean hashes anything: it is a label: what it is worth is what the hold of that sum in a sandbox is worth. -/
noncomputable def Try.pinned : Pinned := { name := "ytjlciehcddanpaa", sum := "9ed2ccfd5fd0819d9ec099ab035aefd20a39d7ed7473a97a762f8be80d3f8e11", checked := Try.checked }
namespace Rows
def none {H : Type} : Left H := { results := [], args := [] }

/-- 'halidelaw15.MixNames': WHATEVER THE INPUT: true; the input reads as it did. -/
def mixNamesSpec : ChangeSpec := { name := "mixNames", fn := fun _ => fun
  | [] => { results := [.lit (.bool true)], args := [] }
  | _ => none }
def mixNamesRow : OpenClaim := { program := "ytjlciehcddanpaa", sum := "9ed2ccfd5fd0819d9ec099ab035aefd20a39d7ed7473a97a762f8be80d3f8e11", func := "halide/halidelaw15.MixNames", spec := "mixNames", inPlace := ["math.Float32frombits", "math.Float32bits"], unfollowed := true, recurses := true, apart := false }
def MixNamesSaid : Prop := mixNamesRow.holds Try.pinned (OpenSpec.ofChange mixNamesSpec)

/-- ITS FALSE NEIGHBOUR: 'it returns false'. Refute it at one input. -/
def mixNamesWrong : ChangeSpec := { name := "mixNames", fn := fun _ => fun
  | [] => { results := [.lit (.bool false)], args := [] }
  | _ => none }
def MixNamesWrongFalsely : Prop := mixNamesRow.holds Try.pinned (OpenSpec.ofChange mixNamesWrong)

/-- 'halidelaw15.MixOne': WHATEVER THE INPUT: true; the input reads as it did. -/
def mixOneSpec : ChangeSpec := { name := "mixOne", fn := fun _ => fun
  | [d1, d2, d3, d4, d5] => { results := [.lit (.bool true)], args := [d1, d2, d3, d4, d5] }
  | _ => none }
def mixOneRow : OpenClaim := { program := "ytjlciehcddanpaa", sum := "9ed2ccfd5fd0819d9ec099ab035aefd20a39d7ed7473a97a762f8be80d3f8e11", func := "halide/halidelaw15.MixOne", spec := "mixOne", inPlace := ["math.Float32frombits", "math.Float32bits"], unfollowed := true, recurses := true, apart := false }
def MixOneSaid : Prop := mixOneRow.holds Try.pinned (OpenSpec.ofChange mixOneSpec)

/-- ITS FALSE NEIGHBOUR: 'it returns false'. Refute it at one input. -/
def mixOneWrong : ChangeSpec := { name := "mixOne", fn := fun _ => fun
  | [d1, d2, d3, d4, d5] => { results := [.lit (.bool false)], args := [d1, d2, d3, d4, d5] }
  | _ => none }
def MixOneWrongFalsely : Prop := mixOneRow.holds Try.pinned (OpenSpec.ofChange mixOneWrong)

/-- 'halidelaw15.MixPictures': WHATEVER THE INPUT: true; the input reads as it did. -/
def mixPicturesSpec : ChangeSpec := { name := "mixPictures", fn := fun _ => fun
  | [d1, d2, d3] => { results := [.lit (.bool true)], args := [d1, d2, d3] }
  | _ => none }
def mixPicturesRow : OpenClaim := { program := "ytjlciehcddanpaa", sum := "9ed2ccfd5fd0819d9ec099ab035aefd20a39d7ed7473a97a762f8be80d3f8e11", func := "halide/halidelaw15.MixPictures", spec := "mixPictures", inPlace := ["math.Float32frombits", "math.Float32bits"], unfollowed := true, recurses := true, apart := false }
def MixPicturesSaid : Prop := mixPicturesRow.holds Try.pinned (OpenSpec.ofChange mixPicturesSpec)

/-- ITS FALSE NEIGHBOUR: 'it returns false'. Refute it at one input. -/
def mixPicturesWrong : ChangeSpec := { name := "mixPictures", fn := fun _ => fun
  | [d1, d2, d3] => { results := [.lit (.bool false)], args := [d1, d2, d3] }
  | _ => none }
def MixPicturesWrongFalsely : Prop := mixPicturesRow.holds Try.pinned (OpenSpec.ofChange mixPicturesWrong)

/-- 'halidelaw15.MixEnds': WHATEVER THE INPUT: true; the input reads as it did. -/
def mixEndsSpec : ChangeSpec := { name := "mixEnds", fn := fun _ => fun
  | [d1, d2, d3] => { results := [.lit (.bool true)], args := [d1, d2, d3] }
  | _ => none }
def mixEndsRow : OpenClaim := { program := "ytjlciehcddanpaa", sum := "9ed2ccfd5fd0819d9ec099ab035aefd20a39d7ed7473a97a762f8be80d3f8e11", func := "halide/halidelaw15.MixEnds", spec := "mixEnds", inPlace := ["math.Float32frombits", "math.Float32bits"], unfollowed := true, recurses := true, apart := false }
def MixEndsSaid : Prop := mixEndsRow.holds Try.pinned (OpenSpec.ofChange mixEndsSpec)

/-- ITS FALSE NEIGHBOUR: 'it returns false'. Refute it at one input. -/
def mixEndsWrong : ChangeSpec := { name := "mixEnds", fn := fun _ => fun
  | [d1, d2, d3] => { results := [.lit (.bool false)], args := [d1, d2, d3] }
  | _ => none }
def MixEndsWrongFalsely : Prop := mixEndsRow.holds Try.pinned (OpenSpec.ofChange mixEndsWrong)

/-- 'halidelaw15.MixLaid': WHATEVER THE INPUT: true; the input reads as it did. -/
def mixLaidSpec : ChangeSpec := { name := "mixLaid", fn := fun _ => fun
  | [d1, d2, d3, d4, d5, d6] => { results := [.lit (.bool true)], args := [d1, d2, d3, d4, d5, d6] }
  | _ => none }
def mixLaidRow : OpenClaim := { program := "ytjlciehcddanpaa", sum := "9ed2ccfd5fd0819d9ec099ab035aefd20a39d7ed7473a97a762f8be80d3f8e11", func := "halide/halidelaw15.MixLaid", spec := "mixLaid", inPlace := ["math.Float32frombits", "math.Float32bits"], unfollowed := true, recurses := true, apart := false }
def MixLaidSaid : Prop := mixLaidRow.holds Try.pinned (OpenSpec.ofChange mixLaidSpec)

/-- ITS FALSE NEIGHBOUR: 'it returns false'. Refute it at one input. -/
def mixLaidWrong : ChangeSpec := { name := "mixLaid", fn := fun _ => fun
  | [d1, d2, d3, d4, d5, d6] => { results := [.lit (.bool false)], args := [d1, d2, d3, d4, d5, d6] }
  | _ => none }
def MixLaidWrongFalsely : Prop := mixLaidRow.holds Try.pinned (OpenSpec.ofChange mixLaidWrong)

/-- 'halidelaw15.MixRises': WHATEVER THE INPUT: true; the input reads as it did. -/
def mixRisesSpec : ChangeSpec := { name := "mixRises", fn := fun _ => fun
  | [d1, d2, d3, d4, d5] => { results := [.lit (.bool true)], args := [d1, d2, d3, d4, d5] }
  | _ => none }
def mixRisesRow : OpenClaim := { program := "ytjlciehcddanpaa", sum := "9ed2ccfd5fd0819d9ec099ab035aefd20a39d7ed7473a97a762f8be80d3f8e11", func := "halide/halidelaw15.MixRises", spec := "mixRises", inPlace := ["math.Float32frombits", "math.Float32bits"], unfollowed := true, recurses := true, apart := false }
def MixRisesSaid : Prop := mixRisesRow.holds Try.pinned (OpenSpec.ofChange mixRisesSpec)

/-- ITS FALSE NEIGHBOUR: 'it returns false'. Refute it at one input. -/
def mixRisesWrong : ChangeSpec := { name := "mixRises", fn := fun _ => fun
  | [d1, d2, d3, d4, d5] => { results := [.lit (.bool false)], args := [d1, d2, d3, d4, d5] }
  | _ => none }
def MixRisesWrongFalsely : Prop := mixRisesRow.holds Try.pinned (OpenSpec.ofChange mixRisesWrong)

/-- 'halidelaw15.MixBack': WHATEVER THE INPUT: true; the input reads as it did. -/
def mixBackSpec : ChangeSpec := { name := "mixBack", fn := fun _ => fun
  | [d1, d2] => { results := [.lit (.bool true)], args := [d1, d2] }
  | _ => none }
def mixBackRow : OpenClaim := { program := "ytjlciehcddanpaa", sum := "9ed2ccfd5fd0819d9ec099ab035aefd20a39d7ed7473a97a762f8be80d3f8e11", func := "halide/halidelaw15.MixBack", spec := "mixBack", inPlace := ["math.Float32frombits", "math.Float32bits"], unfollowed := true, recurses := true, apart := false }
def MixBackSaid : Prop := mixBackRow.holds Try.pinned (OpenSpec.ofChange mixBackSpec)

/-- ITS FALSE NEIGHBOUR: 'it returns false'. Refute it at one input. -/
def mixBackWrong : ChangeSpec := { name := "mixBack", fn := fun _ => fun
  | [d1, d2] => { results := [.lit (.bool false)], args := [d1, d2] }
  | _ => none }
def MixBackWrongFalsely : Prop := mixBackRow.holds Try.pinned (OpenSpec.ofChange mixBackWrong)

/- THE SECOND FORM. 'bulk': how many values and letters a reading holds, each counted each time it is reached (what is shared counts as often as it is met; a slice's spare places count too). A statement '..UptoSaid' is the law's where the arguments, and the package variables that the reading takes, are together of bulk at most 1048576: NARROWER than '..Said'. Prove '..Said' where nothing that the law and all that it calls make is longer than what came in: it says more and counts as full. Else prove '..UptoSaid'. A law counts once. -/
mutual
def uptoBulk {H : Type} : DataW H → Nat
  | .lit (.string bytes) => bytes.length + 1
  | .lit _ => 1
  | .nil => 1
  | .ptr d => uptoBulk d + 1
  | .slice elems spare => uptoBulkAll elems + uptoBulkAll spare + 1
  | .agg parts => uptoBulkAll parts + 1
  | .iface _ d => uptoBulk d + 1
  | .map entries => uptoBulkEntries entries + 1
  | .held _ => 1
def uptoBulkAll {H : Type} : List (DataW H) → Nat
  | [] => 0
  | d :: r => uptoBulk d + uptoBulkAll r
def uptoBulkEntries {H : Type} : List (Lit × DataW H) → Nat
  | [] => 0
  | x :: r => uptoBulkEntry x + uptoBulkEntries r
def uptoBulkEntry {H : Type} : Lit × DataW H → Nat
  | (.string bytes, d) => bytes.length + uptoBulk d + 1
  | (_, d) => uptoBulk d + 1
 end
def uptoSmall : (H : Type) → List (DataW H) → Bool := fun _ ds => decide (uptoBulkAll ds ≤ 1048576)
def OpenSpec.upto (s : _root_.Go.ChangeSpec) : _root_.Go.OpenSpec := { _root_.Go.OpenSpec.ofChange s with cond := some uptoSmall }

/-- 'halidelaw15.MixNames', WHERE WHAT IT READS IS OF BULK AT MOST 1048576: true; the input reads as it did. -/
def mixNamesUptoRow : OpenClaim := { program := "ytjlciehcddanpaa", sum := "9ed2ccfd5fd0819d9ec099ab035aefd20a39d7ed7473a97a762f8be80d3f8e11", func := "halide/halidelaw15.MixNames", spec := "mixNames", inPlace := ["math.Float32frombits", "math.Float32bits"], unfollowed := true, recurses := true, apart := false, narrowed := true }
def MixNamesUptoSaid : Prop := mixNamesUptoRow.holds Try.pinned (OpenSpec.upto mixNamesSpec)

/-- 'halidelaw15.MixOne', WHERE WHAT IT READS IS OF BULK AT MOST 1048576: true; the input reads as it did. -/
def mixOneUptoRow : OpenClaim := { program := "ytjlciehcddanpaa", sum := "9ed2ccfd5fd0819d9ec099ab035aefd20a39d7ed7473a97a762f8be80d3f8e11", func := "halide/halidelaw15.MixOne", spec := "mixOne", inPlace := ["math.Float32frombits", "math.Float32bits"], unfollowed := true, recurses := true, apart := false, narrowed := true }
def MixOneUptoSaid : Prop := mixOneUptoRow.holds Try.pinned (OpenSpec.upto mixOneSpec)

/-- 'halidelaw15.MixPictures', WHERE WHAT IT READS IS OF BULK AT MOST 1048576: true; the input reads as it did. -/
def mixPicturesUptoRow : OpenClaim := { program := "ytjlciehcddanpaa", sum := "9ed2ccfd5fd0819d9ec099ab035aefd20a39d7ed7473a97a762f8be80d3f8e11", func := "halide/halidelaw15.MixPictures", spec := "mixPictures", inPlace := ["math.Float32frombits", "math.Float32bits"], unfollowed := true, recurses := true, apart := false, narrowed := true }
def MixPicturesUptoSaid : Prop := mixPicturesUptoRow.holds Try.pinned (OpenSpec.upto mixPicturesSpec)

/-- 'halidelaw15.MixEnds', WHERE WHAT IT READS IS OF BULK AT MOST 1048576: true; the input reads as it did. -/
def mixEndsUptoRow : OpenClaim := { program := "ytjlciehcddanpaa", sum := "9ed2ccfd5fd0819d9ec099ab035aefd20a39d7ed7473a97a762f8be80d3f8e11", func := "halide/halidelaw15.MixEnds", spec := "mixEnds", inPlace := ["math.Float32frombits", "math.Float32bits"], unfollowed := true, recurses := true, apart := false, narrowed := true }
def MixEndsUptoSaid : Prop := mixEndsUptoRow.holds Try.pinned (OpenSpec.upto mixEndsSpec)

/-- 'halidelaw15.MixLaid', WHERE WHAT IT READS IS OF BULK AT MOST 1048576: true; the input reads as it did. -/
def mixLaidUptoRow : OpenClaim := { program := "ytjlciehcddanpaa", sum := "9ed2ccfd5fd0819d9ec099ab035aefd20a39d7ed7473a97a762f8be80d3f8e11", func := "halide/halidelaw15.MixLaid", spec := "mixLaid", inPlace := ["math.Float32frombits", "math.Float32bits"], unfollowed := true, recurses := true, apart := false, narrowed := true }
def MixLaidUptoSaid : Prop := mixLaidUptoRow.holds Try.pinned (OpenSpec.upto mixLaidSpec)

/-- 'halidelaw15.MixRises', WHERE WHAT IT READS IS OF BULK AT MOST 1048576: true; the input reads as it did. -/
def mixRisesUptoRow : OpenClaim := { program := "ytjlciehcddanpaa", sum := "9ed2ccfd5fd0819d9ec099ab035aefd20a39d7ed7473a97a762f8be80d3f8e11", func := "halide/halidelaw15.MixRises", spec := "mixRises", inPlace := ["math.Float32frombits", "math.Float32bits"], unfollowed := true, recurses := true, apart := false, narrowed := true }
def MixRisesUptoSaid : Prop := mixRisesUptoRow.holds Try.pinned (OpenSpec.upto mixRisesSpec)

/-- 'halidelaw15.MixBack', WHERE WHAT IT READS IS OF BULK AT MOST 1048576: true; the input reads as it did. -/
def mixBackUptoRow : OpenClaim := { program := "ytjlciehcddanpaa", sum := "9ed2ccfd5fd0819d9ec099ab035aefd20a39d7ed7473a97a762f8be80d3f8e11", func := "halide/halidelaw15.MixBack", spec := "mixBack", inPlace := ["math.Float32frombits", "math.Float32bits"], unfollowed := true, recurses := true, apart := false, narrowed := true }
def MixBackUptoSaid : Prop := mixBackUptoRow.holds Try.pinned (OpenSpec.upto mixBackSpec)

end Rows
end Go.Proofs.Ytjlciehcddanpaa
