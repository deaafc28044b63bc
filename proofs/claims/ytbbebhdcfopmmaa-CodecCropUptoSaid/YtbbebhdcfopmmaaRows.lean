/-
  No cell of these rows narrows 'for every input' (looked for: loops, veiled, ifaces, maps, wideKeys, modest, calm, conditions, laid).
  DERIVED. THE GIVEN ROWS OF THIS SEAT. 12 by the template 'for every input the law returns true; each argument reads behind the call as it read before'; 0 by the template 'total and deterministic' (their statements: YtbbebhdcfopmmaaTotals.lean).
  GIVEN WITH THE SEED: the statements are not yours to turn. If you find one false, say at which input.
  Laid BY PROGRAM, IN A SANDBOX (cutbox-rows.mjs): the forced cells as the released guide's own fill.sh prints them over the translation a2451779b0791dc7… (all of the seat's roots in one cut). By AI agents, Wed Nov 11 2026. No macro, syntax, notation, axiom, sorry.
-/
import Derived.Test.YtbbebhdcfopmmaaChecked
import GoSem.Claim
import GoSem.ClaimJoined
import GoSem.ClaimMapViews
import Derived.JoinedTies
import Derived.KernelRfl
namespace Go.Proofs.Ytbbebhdcfopmmaa
/- THE CELL 'sum', in the pinned program and in every row, IS THE sha256 OF THE DUMP (.gsa) THAT YtbbebhdcfopmmaaProg.lean LOADS. Nothing in Lean hashes anything: it is a label: what it is worth is what the hold of that sum in a sandbox is worth. -/
noncomputable def Try.pinned : Pinned := { name := "ytbbebhdcfopmmaa", sum := "a2451779b0791dc770e97c33d46e1c67799d1d32a9683a8d76fc7a60a66167c7", checked := Try.checked }
namespace Rows
def none {H : Type} : Left H := { results := [], args := [] }

/-- 'halidelaw18.CodecNames': WHATEVER THE INPUT: true; the input reads as it did. -/
def codecNamesSpec : ChangeSpec := { name := "codecNames", fn := fun _ => fun
  | [] => { results := [.lit (.bool true)], args := [] }
  | _ => none }
def codecNamesRow : OpenClaim := { program := "ytbbebhdcfopmmaa", sum := "a2451779b0791dc770e97c33d46e1c67799d1d32a9683a8d76fc7a60a66167c7", func := "halide/halidelaw18.CodecNames", spec := "codecNames", unfollowed := true, recurses := true, apart := false }
def CodecNamesSaid : Prop := codecNamesRow.holds Try.pinned (OpenSpec.ofChange codecNamesSpec)

/-- ITS FALSE NEIGHBOUR: 'it returns false'. Refute it at one input. -/
def codecNamesWrong : ChangeSpec := { name := "codecNames", fn := fun _ => fun
  | [] => { results := [.lit (.bool false)], args := [] }
  | _ => none }
def CodecNamesWrongFalsely : Prop := codecNamesRow.holds Try.pinned (OpenSpec.ofChange codecNamesWrong)

/-- 'halidelaw18.CodecSum': WHATEVER THE INPUT: true; the input reads as it did. -/
def codecSumSpec : ChangeSpec := { name := "codecSum", fn := fun _ => fun
  | [d1, d2, d3, d4] => { results := [.lit (.bool true)], args := [d1, d2, d3, d4] }
  | _ => none }
def codecSumRow : OpenClaim := { program := "ytbbebhdcfopmmaa", sum := "a2451779b0791dc770e97c33d46e1c67799d1d32a9683a8d76fc7a60a66167c7", func := "halide/halidelaw18.CodecSum", spec := "codecSum", unfollowed := true, recurses := true, apart := false }
def CodecSumSaid : Prop := codecSumRow.holds Try.pinned (OpenSpec.ofChange codecSumSpec)

/-- ITS FALSE NEIGHBOUR: 'it returns false'. Refute it at one input. -/
def codecSumWrong : ChangeSpec := { name := "codecSum", fn := fun _ => fun
  | [d1, d2, d3, d4] => { results := [.lit (.bool false)], args := [d1, d2, d3, d4] }
  | _ => none }
def CodecSumWrongFalsely : Prop := codecSumRow.holds Try.pinned (OpenSpec.ofChange codecSumWrong)

/-- 'halidelaw18.CodecRests': WHATEVER THE INPUT: true; the input reads as it did. -/
def codecRestsSpec : ChangeSpec := { name := "codecRests", fn := fun _ => fun
  | [d1, d2, d3, d4] => { results := [.lit (.bool true)], args := [d1, d2, d3, d4] }
  | _ => none }
def codecRestsRow : OpenClaim := { program := "ytbbebhdcfopmmaa", sum := "a2451779b0791dc770e97c33d46e1c67799d1d32a9683a8d76fc7a60a66167c7", func := "halide/halidelaw18.CodecRests", spec := "codecRests", unfollowed := true, recurses := true, apart := false }
def CodecRestsSaid : Prop := codecRestsRow.holds Try.pinned (OpenSpec.ofChange codecRestsSpec)

/-- ITS FALSE NEIGHBOUR: 'it returns false'. Refute it at one input. -/
def codecRestsWrong : ChangeSpec := { name := "codecRests", fn := fun _ => fun
  | [d1, d2, d3, d4] => { results := [.lit (.bool false)], args := [d1, d2, d3, d4] }
  | _ => none }
def CodecRestsWrongFalsely : Prop := codecRestsRow.holds Try.pinned (OpenSpec.ofChange codecRestsWrong)

/-- 'halidelaw18.CodecEncode': WHATEVER THE INPUT: true; the input reads as it did. -/
def codecEncodeSpec : ChangeSpec := { name := "codecEncode", fn := fun _ => fun
  | [d1, d2] => { results := [.lit (.bool true)], args := [d1, d2] }
  | _ => none }
def codecEncodeRow : OpenClaim := { program := "ytbbebhdcfopmmaa", sum := "a2451779b0791dc770e97c33d46e1c67799d1d32a9683a8d76fc7a60a66167c7", func := "halide/halidelaw18.CodecEncode", spec := "codecEncode", unfollowed := true, recurses := true, apart := false }
def CodecEncodeSaid : Prop := codecEncodeRow.holds Try.pinned (OpenSpec.ofChange codecEncodeSpec)

/-- ITS FALSE NEIGHBOUR: 'it returns false'. Refute it at one input. -/
def codecEncodeWrong : ChangeSpec := { name := "codecEncode", fn := fun _ => fun
  | [d1, d2] => { results := [.lit (.bool false)], args := [d1, d2] }
  | _ => none }
def CodecEncodeWrongFalsely : Prop := codecEncodeRow.holds Try.pinned (OpenSpec.ofChange codecEncodeWrong)

/-- 'halidelaw18.CodecDecode': WHATEVER THE INPUT: true; the input reads as it did. -/
def codecDecodeSpec : ChangeSpec := { name := "codecDecode", fn := fun _ => fun
  | [d] => { results := [.lit (.bool true)], args := [d] }
  | _ => none }
def codecDecodeRow : OpenClaim := { program := "ytbbebhdcfopmmaa", sum := "a2451779b0791dc770e97c33d46e1c67799d1d32a9683a8d76fc7a60a66167c7", func := "halide/halidelaw18.CodecDecode", spec := "codecDecode", unfollowed := true, recurses := true, apart := false }
def CodecDecodeSaid : Prop := codecDecodeRow.holds Try.pinned (OpenSpec.ofChange codecDecodeSpec)

/-- ITS FALSE NEIGHBOUR: 'it returns false'. Refute it at one input. -/
def codecDecodeWrong : ChangeSpec := { name := "codecDecode", fn := fun _ => fun
  | [d] => { results := [.lit (.bool false)], args := [d] }
  | _ => none }
def CodecDecodeWrongFalsely : Prop := codecDecodeRow.holds Try.pinned (OpenSpec.ofChange codecDecodeWrong)

/-- 'halidelaw18.CodecRegion': WHATEVER THE INPUT: true; the input reads as it did. -/
def codecRegionSpec : ChangeSpec := { name := "codecRegion", fn := fun _ => fun
  | [d1, d2] => { results := [.lit (.bool true)], args := [d1, d2] }
  | _ => none }
def codecRegionRow : OpenClaim := { program := "ytbbebhdcfopmmaa", sum := "a2451779b0791dc770e97c33d46e1c67799d1d32a9683a8d76fc7a60a66167c7", func := "halide/halidelaw18.CodecRegion", spec := "codecRegion", unfollowed := true, recurses := true, apart := false }
def CodecRegionSaid : Prop := codecRegionRow.holds Try.pinned (OpenSpec.ofChange codecRegionSpec)

/-- ITS FALSE NEIGHBOUR: 'it returns false'. Refute it at one input. -/
def codecRegionWrong : ChangeSpec := { name := "codecRegion", fn := fun _ => fun
  | [d1, d2] => { results := [.lit (.bool false)], args := [d1, d2] }
  | _ => none }
def CodecRegionWrongFalsely : Prop := codecRegionRow.holds Try.pinned (OpenSpec.ofChange codecRegionWrong)

/-- 'halidelaw18.CodecBack': WHATEVER THE INPUT: true; the input reads as it did. -/
def codecBackSpec : ChangeSpec := { name := "codecBack", fn := fun _ => fun
  | [d1, d2] => { results := [.lit (.bool true)], args := [d1, d2] }
  | _ => none }
def codecBackRow : OpenClaim := { program := "ytbbebhdcfopmmaa", sum := "a2451779b0791dc770e97c33d46e1c67799d1d32a9683a8d76fc7a60a66167c7", func := "halide/halidelaw18.CodecBack", spec := "codecBack", unfollowed := true, recurses := true, apart := false }
def CodecBackSaid : Prop := codecBackRow.holds Try.pinned (OpenSpec.ofChange codecBackSpec)

/-- ITS FALSE NEIGHBOUR: 'it returns false'. Refute it at one input. -/
def codecBackWrong : ChangeSpec := { name := "codecBack", fn := fun _ => fun
  | [d1, d2] => { results := [.lit (.bool false)], args := [d1, d2] }
  | _ => none }
def CodecBackWrongFalsely : Prop := codecBackRow.holds Try.pinned (OpenSpec.ofChange codecBackWrong)

/-- 'halidelaw18.CodecOne': WHATEVER THE INPUT: true; the input reads as it did. -/
def codecOneSpec : ChangeSpec := { name := "codecOne", fn := fun _ => fun
  | [d1, d2, d3, d4] => { results := [.lit (.bool true)], args := [d1, d2, d3, d4] }
  | _ => none }
def codecOneRow : OpenClaim := { program := "ytbbebhdcfopmmaa", sum := "a2451779b0791dc770e97c33d46e1c67799d1d32a9683a8d76fc7a60a66167c7", func := "halide/halidelaw18.CodecOne", spec := "codecOne", unfollowed := true, recurses := true, apart := false }
def CodecOneSaid : Prop := codecOneRow.holds Try.pinned (OpenSpec.ofChange codecOneSpec)

/-- ITS FALSE NEIGHBOUR: 'it returns false'. Refute it at one input. -/
def codecOneWrong : ChangeSpec := { name := "codecOne", fn := fun _ => fun
  | [d1, d2, d3, d4] => { results := [.lit (.bool false)], args := [d1, d2, d3, d4] }
  | _ => none }
def CodecOneWrongFalsely : Prop := codecOneRow.holds Try.pinned (OpenSpec.ofChange codecOneWrong)

/-- 'halidelaw18.CodecCrop': WHATEVER THE INPUT: true; the input reads as it did. -/
def codecCropSpec : ChangeSpec := { name := "codecCrop", fn := fun _ => fun
  | [d1, d2, d3] => { results := [.lit (.bool true)], args := [d1, d2, d3] }
  | _ => none }
def codecCropRow : OpenClaim := { program := "ytbbebhdcfopmmaa", sum := "a2451779b0791dc770e97c33d46e1c67799d1d32a9683a8d76fc7a60a66167c7", func := "halide/halidelaw18.CodecCrop", spec := "codecCrop", unfollowed := true, recurses := true, apart := false }
def CodecCropSaid : Prop := codecCropRow.holds Try.pinned (OpenSpec.ofChange codecCropSpec)

/-- ITS FALSE NEIGHBOUR: 'it returns false'. Refute it at one input. -/
def codecCropWrong : ChangeSpec := { name := "codecCrop", fn := fun _ => fun
  | [d1, d2, d3] => { results := [.lit (.bool false)], args := [d1, d2, d3] }
  | _ => none }
def CodecCropWrongFalsely : Prop := codecCropRow.holds Try.pinned (OpenSpec.ofChange codecCropWrong)

/-- 'halidelaw18.CodecHurt': WHATEVER THE INPUT: true; the input reads as it did. -/
def codecHurtSpec : ChangeSpec := { name := "codecHurt", fn := fun _ => fun
  | [d1, d2, d3, d4, d5] => { results := [.lit (.bool true)], args := [d1, d2, d3, d4, d5] }
  | _ => none }
def codecHurtRow : OpenClaim := { program := "ytbbebhdcfopmmaa", sum := "a2451779b0791dc770e97c33d46e1c67799d1d32a9683a8d76fc7a60a66167c7", func := "halide/halidelaw18.CodecHurt", spec := "codecHurt", unfollowed := true, recurses := true, apart := false }
def CodecHurtSaid : Prop := codecHurtRow.holds Try.pinned (OpenSpec.ofChange codecHurtSpec)

/-- ITS FALSE NEIGHBOUR: 'it returns false'. Refute it at one input. -/
def codecHurtWrong : ChangeSpec := { name := "codecHurt", fn := fun _ => fun
  | [d1, d2, d3, d4, d5] => { results := [.lit (.bool false)], args := [d1, d2, d3, d4, d5] }
  | _ => none }
def CodecHurtWrongFalsely : Prop := codecHurtRow.holds Try.pinned (OpenSpec.ofChange codecHurtWrong)

/-- 'halidelaw18.CodecLocal': WHATEVER THE INPUT: true; the input reads as it did. -/
def codecLocalSpec : ChangeSpec := { name := "codecLocal", fn := fun _ => fun
  | [d1, d2, d3, d4, d5] => { results := [.lit (.bool true)], args := [d1, d2, d3, d4, d5] }
  | _ => none }
def codecLocalRow : OpenClaim := { program := "ytbbebhdcfopmmaa", sum := "a2451779b0791dc770e97c33d46e1c67799d1d32a9683a8d76fc7a60a66167c7", func := "halide/halidelaw18.CodecLocal", spec := "codecLocal", unfollowed := true, recurses := true, apart := false }
def CodecLocalSaid : Prop := codecLocalRow.holds Try.pinned (OpenSpec.ofChange codecLocalSpec)

/-- ITS FALSE NEIGHBOUR: 'it returns false'. Refute it at one input. -/
def codecLocalWrong : ChangeSpec := { name := "codecLocal", fn := fun _ => fun
  | [d1, d2, d3, d4, d5] => { results := [.lit (.bool false)], args := [d1, d2, d3, d4, d5] }
  | _ => none }
def CodecLocalWrongFalsely : Prop := codecLocalRow.holds Try.pinned (OpenSpec.ofChange codecLocalWrong)

/-- 'halidelaw18.CodecPieces': WHATEVER THE INPUT: true; the input reads as it did. -/
def codecPiecesSpec : ChangeSpec := { name := "codecPieces", fn := fun _ => fun
  | [d1, d2] => { results := [.lit (.bool true)], args := [d1, d2] }
  | _ => none }
def codecPiecesRow : OpenClaim := { program := "ytbbebhdcfopmmaa", sum := "a2451779b0791dc770e97c33d46e1c67799d1d32a9683a8d76fc7a60a66167c7", func := "halide/halidelaw18.CodecPieces", spec := "codecPieces", unfollowed := true, recurses := true, apart := false }
def CodecPiecesSaid : Prop := codecPiecesRow.holds Try.pinned (OpenSpec.ofChange codecPiecesSpec)

/-- ITS FALSE NEIGHBOUR: 'it returns false'. Refute it at one input. -/
def codecPiecesWrong : ChangeSpec := { name := "codecPieces", fn := fun _ => fun
  | [d1, d2] => { results := [.lit (.bool false)], args := [d1, d2] }
  | _ => none }
def CodecPiecesWrongFalsely : Prop := codecPiecesRow.holds Try.pinned (OpenSpec.ofChange codecPiecesWrong)

/- THE SECOND FORM. 'bulk': how many values and letters a reading holds, each counted each time it is reached (what is shared counts as often as it is met; a slice's spare places count too). A statement '..UptoSaid' is the law's where the arguments, and the package variables that the reading takes, are together of bulk at most 1048576: NARROWER than '..Said'. Prove '..Said' where nothing that the law and all that it calls make is longer than what came in: it says more and counts as full. Else prove '..UptoSaid'. A law counts once. -/
mutual
def uptoBulk {H : Type} : DataW H → Nat
  | .lit (.string bytes) => bytes.length + 1
  | .lit _ => 1
  | .nil => 1
  | .ptr d => uptoBulk d + 1
  | .slice elems spare => uptoBulkAll elems + uptoBulkAll spare + 1
  | .agg parts => uptoBulkAll parts + 1
  | .iface _ d => uptoBulk d + 1
  | .map entries => uptoBulkEntries entries + 1
  | .held _ => 1
def uptoBulkAll {H : Type} : List (DataW H) → Nat
  | [] => 0
  | d :: r => uptoBulk d + uptoBulkAll r
def uptoBulkEntries {H : Type} : List (Lit × DataW H) → Nat
  | [] => 0
  | x :: r => uptoBulkEntry x + uptoBulkEntries r
def uptoBulkEntry {H : Type} : Lit × DataW H → Nat
  | (.string bytes, d) => bytes.length + uptoBulk d + 1
  | (_, d) => uptoBulk d + 1
 end
def uptoSmall : (H : Type) → List (DataW H) → Bool := fun _ ds => decide (uptoBulkAll ds ≤ 1048576)
def OpenSpec.upto (s : _root_.Go.ChangeSpec) : _root_.Go.OpenSpec := { _root_.Go.OpenSpec.ofChange s with cond := some uptoSmall }

/-- 'halidelaw18.CodecNames', WHERE WHAT IT READS IS OF BULK AT MOST 1048576: true; the input reads as it did. -/
def codecNamesUptoRow : OpenClaim := { program := "ytbbebhdcfopmmaa", sum := "a2451779b0791dc770e97c33d46e1c67799d1d32a9683a8d76fc7a60a66167c7", func := "halide/halidelaw18.CodecNames", spec := "codecNames", unfollowed := true, recurses := true, apart := false, narrowed := true }
def CodecNamesUptoSaid : Prop := codecNamesUptoRow.holds Try.pinned (OpenSpec.upto codecNamesSpec)

/-- 'halidelaw18.CodecSum', WHERE WHAT IT READS IS OF BULK AT MOST 1048576: true; the input reads as it did. -/
def codecSumUptoRow : OpenClaim := { program := "ytbbebhdcfopmmaa", sum := "a2451779b0791dc770e97c33d46e1c67799d1d32a9683a8d76fc7a60a66167c7", func := "halide/halidelaw18.CodecSum", spec := "codecSum", unfollowed := true, recurses := true, apart := false, narrowed := true }
def CodecSumUptoSaid : Prop := codecSumUptoRow.holds Try.pinned (OpenSpec.upto codecSumSpec)

/-- 'halidelaw18.CodecRests', WHERE WHAT IT READS IS OF BULK AT MOST 1048576: true; the input reads as it did. -/
def codecRestsUptoRow : OpenClaim := { program := "ytbbebhdcfopmmaa", sum := "a2451779b0791dc770e97c33d46e1c67799d1d32a9683a8d76fc7a60a66167c7", func := "halide/halidelaw18.CodecRests", spec := "codecRests", unfollowed := true, recurses := true, apart := false, narrowed := true }
def CodecRestsUptoSaid : Prop := codecRestsUptoRow.holds Try.pinned (OpenSpec.upto codecRestsSpec)

/-- 'halidelaw18.CodecEncode', WHERE WHAT IT READS IS OF BULK AT MOST 1048576: true; the input reads as it did. -/
def codecEncodeUptoRow : OpenClaim := { program := "ytbbebhdcfopmmaa", sum := "a2451779b0791dc770e97c33d46e1c67799d1d32a9683a8d76fc7a60a66167c7", func := "halide/halidelaw18.CodecEncode", spec := "codecEncode", unfollowed := true, recurses := true, apart := false, narrowed := true }
def CodecEncodeUptoSaid : Prop := codecEncodeUptoRow.holds Try.pinned (OpenSpec.upto codecEncodeSpec)

/-- 'halidelaw18.CodecDecode', WHERE WHAT IT READS IS OF BULK AT MOST 1048576: true; the input reads as it did. -/
def codecDecodeUptoRow : OpenClaim := { program := "ytbbebhdcfopmmaa", sum := "a2451779b0791dc770e97c33d46e1c67799d1d32a9683a8d76fc7a60a66167c7", func := "halide/halidelaw18.CodecDecode", spec := "codecDecode", unfollowed := true, recurses := true, apart := false, narrowed := true }
def CodecDecodeUptoSaid : Prop := codecDecodeUptoRow.holds Try.pinned (OpenSpec.upto codecDecodeSpec)

/-- 'halidelaw18.CodecRegion', WHERE WHAT IT READS IS OF BULK AT MOST 1048576: true; the input reads as it did. -/
def codecRegionUptoRow : OpenClaim := { program := "ytbbebhdcfopmmaa", sum := "a2451779b0791dc770e97c33d46e1c67799d1d32a9683a8d76fc7a60a66167c7", func := "halide/halidelaw18.CodecRegion", spec := "codecRegion", unfollowed := true, recurses := true, apart := false, narrowed := true }
def CodecRegionUptoSaid : Prop := codecRegionUptoRow.holds Try.pinned (OpenSpec.upto codecRegionSpec)

/-- 'halidelaw18.CodecBack', WHERE WHAT IT READS IS OF BULK AT MOST 1048576: true; the input reads as it did. -/
def codecBackUptoRow : OpenClaim := { program := "ytbbebhdcfopmmaa", sum := "a2451779b0791dc770e97c33d46e1c67799d1d32a9683a8d76fc7a60a66167c7", func := "halide/halidelaw18.CodecBack", spec := "codecBack", unfollowed := true, recurses := true, apart := false, narrowed := true }
def CodecBackUptoSaid : Prop := codecBackUptoRow.holds Try.pinned (OpenSpec.upto codecBackSpec)

/-- 'halidelaw18.CodecOne', WHERE WHAT IT READS IS OF BULK AT MOST 1048576: true; the input reads as it did. -/
def codecOneUptoRow : OpenClaim := { program := "ytbbebhdcfopmmaa", sum := "a2451779b0791dc770e97c33d46e1c67799d1d32a9683a8d76fc7a60a66167c7", func := "halide/halidelaw18.CodecOne", spec := "codecOne", unfollowed := true, recurses := true, apart := false, narrowed := true }
def CodecOneUptoSaid : Prop := codecOneUptoRow.holds Try.pinned (OpenSpec.upto codecOneSpec)

/-- 'halidelaw18.CodecCrop', WHERE WHAT IT READS IS OF BULK AT MOST 1048576: true; the input reads as it did. -/
def codecCropUptoRow : OpenClaim := { program := "ytbbebhdcfopmmaa", sum := "a2451779b0791dc770e97c33d46e1c67799d1d32a9683a8d76fc7a60a66167c7", func := "halide/halidelaw18.CodecCrop", spec := "codecCrop", unfollowed := true, recurses := true, apart := false, narrowed := true }
def CodecCropUptoSaid : Prop := codecCropUptoRow.holds Try.pinned (OpenSpec.upto codecCropSpec)

/-- 'halidelaw18.CodecHurt', WHERE WHAT IT READS IS OF BULK AT MOST 1048576: true; the input reads as it did. -/
def codecHurtUptoRow : OpenClaim := { program := "ytbbebhdcfopmmaa", sum := "a2451779b0791dc770e97c33d46e1c67799d1d32a9683a8d76fc7a60a66167c7", func := "halide/halidelaw18.CodecHurt", spec := "codecHurt", unfollowed := true, recurses := true, apart := false, narrowed := true }
def CodecHurtUptoSaid : Prop := codecHurtUptoRow.holds Try.pinned (OpenSpec.upto codecHurtSpec)

/-- 'halidelaw18.CodecLocal', WHERE WHAT IT READS IS OF BULK AT MOST 1048576: true; the input reads as it did. -/
def codecLocalUptoRow : OpenClaim := { program := "ytbbebhdcfopmmaa", sum := "a2451779b0791dc770e97c33d46e1c67799d1d32a9683a8d76fc7a60a66167c7", func := "halide/halidelaw18.CodecLocal", spec := "codecLocal", unfollowed := true, recurses := true, apart := false, narrowed := true }
def CodecLocalUptoSaid : Prop := codecLocalUptoRow.holds Try.pinned (OpenSpec.upto codecLocalSpec)

/-- 'halidelaw18.CodecPieces', WHERE WHAT IT READS IS OF BULK AT MOST 1048576: true; the input reads as it did. -/
def codecPiecesUptoRow : OpenClaim := { program := "ytbbebhdcfopmmaa", sum := "a2451779b0791dc770e97c33d46e1c67799d1d32a9683a8d76fc7a60a66167c7", func := "halide/halidelaw18.CodecPieces", spec := "codecPieces", unfollowed := true, recurses := true, apart := false, narrowed := true }
def CodecPiecesUptoSaid : Prop := codecPiecesUptoRow.holds Try.pinned (OpenSpec.upto codecPiecesSpec)

end Rows
end Go.Proofs.Ytbbebhdcfopmmaa
