/-
  No cell of these rows narrows 'for every input' (looked for: loops, veiled, ifaces, maps, wideKeys, modest, calm, conditions, laid).
  DERIVED. THE GIVEN ROWS OF THIS SEAT. 8 by the template 'for every input the law returns true; each argument reads behind the call as it read before'; 0 by the template 'total and deterministic' (their statements: YtnfcohpljgmaiaaTotals.lean).
  GIVEN WITH THE SEED: the statements are not yours to turn. If you find one false, say at which input.
  Laid BY PROGRAM, IN A SANDBOX (cutbox-rows.mjs): the forced cells as the released guide's own fill.sh prints them over the translation 632dec79bc096f34… (all of the seat's roots in one cut). By AI agents, Wed Nov 11 2026. No macro, syntax, notation, axiom, sorry.
-/
import Derived.Test.YtnfcohpljgmaiaaChecked
import GoSem.Claim
import GoSem.ClaimJoined
import GoSem.ClaimMapViews
import Derived.JoinedTies
import Derived.KernelRfl
namespace Go.Proofs.Ytnfcohpljgmaiaa
/- THE CELL 'sum', in the pinned program and in every row, IS THE sha256 OF THE DUMP (.gsa) THAT YtnfcohpljgmaiaaProg.lean LOADS. Nothing in Lean hashes anything: it is a label: what it is worth is what the hold of that sum in a sandbox is worth. -/
noncomputable def Try.pinned : Pinned := { name := "ytnfcohpljgmaiaa", sum := "632dec79bc096f347096ee4bbda0c9b597d2d52d65a19a2efa3066566262e806", checked := Try.checked }
namespace Rows
def none {H : Type} : Left H := { results := [], args := [] }

/-- 'hopmeshlaw46.ImageMakes': WHATEVER THE INPUT: true; the input reads as it did. -/
def imageMakesSpec : ChangeSpec := { name := "imageMakes", fn := fun _ => fun
  | [d1, d2, d3, d4] => { results := [.lit (.bool true)], args := [d1, d2, d3, d4] }
  | _ => none }
def imageMakesRow : OpenClaim := { program := "ytnfcohpljgmaiaa", sum := "632dec79bc096f347096ee4bbda0c9b597d2d52d65a19a2efa3066566262e806", func := "hopmesh/hopmeshlaw46.ImageMakes", spec := "imageMakes", inPlace := ["internal/abi.NoEscape", "internal/bytealg.MakeNoZero"], unfollowed := true, recurses := true, apart := false }
def ImageMakesSaid : Prop := imageMakesRow.holds Try.pinned (OpenSpec.ofChange imageMakesSpec)

/-- ITS FALSE NEIGHBOUR: 'it returns false'. Refute it at one input. -/
def imageMakesWrong : ChangeSpec := { name := "imageMakes", fn := fun _ => fun
  | [d1, d2, d3, d4] => { results := [.lit (.bool false)], args := [d1, d2, d3, d4] }
  | _ => none }
def ImageMakesWrongFalsely : Prop := imageMakesRow.holds Try.pinned (OpenSpec.ofChange imageMakesWrong)

/-- 'hopmeshlaw46.ImageDivides': WHATEVER THE INPUT: true; the input reads as it did. -/
def imageDividesSpec : ChangeSpec := { name := "imageDivides", fn := fun _ => fun
  | [d1, d2, d3] => { results := [.lit (.bool true)], args := [d1, d2, d3] }
  | _ => none }
def imageDividesRow : OpenClaim := { program := "ytnfcohpljgmaiaa", sum := "632dec79bc096f347096ee4bbda0c9b597d2d52d65a19a2efa3066566262e806", func := "hopmesh/hopmeshlaw46.ImageDivides", spec := "imageDivides", inPlace := ["internal/abi.NoEscape", "internal/bytealg.MakeNoZero"], unfollowed := true, recurses := true, apart := false }
def ImageDividesSaid : Prop := imageDividesRow.holds Try.pinned (OpenSpec.ofChange imageDividesSpec)

/-- ITS FALSE NEIGHBOUR: 'it returns false'. Refute it at one input. -/
def imageDividesWrong : ChangeSpec := { name := "imageDivides", fn := fun _ => fun
  | [d1, d2, d3] => { results := [.lit (.bool false)], args := [d1, d2, d3] }
  | _ => none }
def ImageDividesWrongFalsely : Prop := imageDividesRow.holds Try.pinned (OpenSpec.ofChange imageDividesWrong)

/-- 'hopmeshlaw46.ImageCovers': WHATEVER THE INPUT: true; the input reads as it did. -/
def imageCoversSpec : ChangeSpec := { name := "imageCovers", fn := fun _ => fun
  | [d] => { results := [.lit (.bool true)], args := [d] }
  | _ => none }
def imageCoversRow : OpenClaim := { program := "ytnfcohpljgmaiaa", sum := "632dec79bc096f347096ee4bbda0c9b597d2d52d65a19a2efa3066566262e806", func := "hopmesh/hopmeshlaw46.ImageCovers", spec := "imageCovers", inPlace := ["internal/abi.NoEscape", "internal/bytealg.MakeNoZero"], unfollowed := true, recurses := true, apart := false }
def ImageCoversSaid : Prop := imageCoversRow.holds Try.pinned (OpenSpec.ofChange imageCoversSpec)

/-- ITS FALSE NEIGHBOUR: 'it returns false'. Refute it at one input. -/
def imageCoversWrong : ChangeSpec := { name := "imageCovers", fn := fun _ => fun
  | [d] => { results := [.lit (.bool false)], args := [d] }
  | _ => none }
def ImageCoversWrongFalsely : Prop := imageCoversRow.holds Try.pinned (OpenSpec.ofChange imageCoversWrong)

/-- 'hopmeshlaw46.ImageChecks': WHATEVER THE INPUT: true; the input reads as it did. -/
def imageChecksSpec : ChangeSpec := { name := "imageChecks", fn := fun _ => fun
  | [d] => { results := [.lit (.bool true)], args := [d] }
  | _ => none }
def imageChecksRow : OpenClaim := { program := "ytnfcohpljgmaiaa", sum := "632dec79bc096f347096ee4bbda0c9b597d2d52d65a19a2efa3066566262e806", func := "hopmesh/hopmeshlaw46.ImageChecks", spec := "imageChecks", inPlace := ["internal/abi.NoEscape", "internal/bytealg.MakeNoZero"], unfollowed := true, recurses := true, apart := false }
def ImageChecksSaid : Prop := imageChecksRow.holds Try.pinned (OpenSpec.ofChange imageChecksSpec)

/-- ITS FALSE NEIGHBOUR: 'it returns false'. Refute it at one input. -/
def imageChecksWrong : ChangeSpec := { name := "imageChecks", fn := fun _ => fun
  | [d] => { results := [.lit (.bool false)], args := [d] }
  | _ => none }
def ImageChecksWrongFalsely : Prop := imageChecksRow.holds Try.pinned (OpenSpec.ofChange imageChecksWrong)

/-- 'hopmeshlaw46.ImageVerifies': WHATEVER THE INPUT: true; the input reads as it did. -/
def imageVerifiesSpec : ChangeSpec := { name := "imageVerifies", fn := fun _ => fun
  | [d1, d2, d3] => { results := [.lit (.bool true)], args := [d1, d2, d3] }
  | _ => none }
def imageVerifiesRow : OpenClaim := { program := "ytnfcohpljgmaiaa", sum := "632dec79bc096f347096ee4bbda0c9b597d2d52d65a19a2efa3066566262e806", func := "hopmesh/hopmeshlaw46.ImageVerifies", spec := "imageVerifies", inPlace := ["internal/abi.NoEscape", "internal/bytealg.MakeNoZero"], unfollowed := true, recurses := true, apart := false }
def ImageVerifiesSaid : Prop := imageVerifiesRow.holds Try.pinned (OpenSpec.ofChange imageVerifiesSpec)

/-- ITS FALSE NEIGHBOUR: 'it returns false'. Refute it at one input. -/
def imageVerifiesWrong : ChangeSpec := { name := "imageVerifies", fn := fun _ => fun
  | [d1, d2, d3] => { results := [.lit (.bool false)], args := [d1, d2, d3] }
  | _ => none }
def ImageVerifiesWrongFalsely : Prop := imageVerifiesRow.holds Try.pinned (OpenSpec.ofChange imageVerifiesWrong)

/-- 'hopmeshlaw46.ImageIntact': WHATEVER THE INPUT: true; the input reads as it did. -/
def imageIntactSpec : ChangeSpec := { name := "imageIntact", fn := fun _ => fun
  | [d1, d2, d3, d4, d5, d6] => { results := [.lit (.bool true)], args := [d1, d2, d3, d4, d5, d6] }
  | _ => none }
def imageIntactRow : OpenClaim := { program := "ytnfcohpljgmaiaa", sum := "632dec79bc096f347096ee4bbda0c9b597d2d52d65a19a2efa3066566262e806", func := "hopmesh/hopmeshlaw46.ImageIntact", spec := "imageIntact", inPlace := ["internal/abi.NoEscape", "internal/bytealg.MakeNoZero"], unfollowed := true, recurses := true, apart := false }
def ImageIntactSaid : Prop := imageIntactRow.holds Try.pinned (OpenSpec.ofChange imageIntactSpec)

/-- ITS FALSE NEIGHBOUR: 'it returns false'. Refute it at one input. -/
def imageIntactWrong : ChangeSpec := { name := "imageIntact", fn := fun _ => fun
  | [d1, d2, d3, d4, d5, d6] => { results := [.lit (.bool false)], args := [d1, d2, d3, d4, d5, d6] }
  | _ => none }
def ImageIntactWrongFalsely : Prop := imageIntactRow.holds Try.pinned (OpenSpec.ofChange imageIntactWrong)

/-- 'hopmeshlaw46.ImageDecodes': WHATEVER THE INPUT: true; the input reads as it did. -/
def imageDecodesSpec : ChangeSpec := { name := "imageDecodes", fn := fun _ => fun
  | [d] => { results := [.lit (.bool true)], args := [d] }
  | _ => none }
def imageDecodesRow : OpenClaim := { program := "ytnfcohpljgmaiaa", sum := "632dec79bc096f347096ee4bbda0c9b597d2d52d65a19a2efa3066566262e806", func := "hopmesh/hopmeshlaw46.ImageDecodes", spec := "imageDecodes", inPlace := ["internal/abi.NoEscape", "internal/bytealg.MakeNoZero"], unfollowed := true, recurses := true, apart := false }
def ImageDecodesSaid : Prop := imageDecodesRow.holds Try.pinned (OpenSpec.ofChange imageDecodesSpec)

/-- ITS FALSE NEIGHBOUR: 'it returns false'. Refute it at one input. -/
def imageDecodesWrong : ChangeSpec := { name := "imageDecodes", fn := fun _ => fun
  | [d] => { results := [.lit (.bool false)], args := [d] }
  | _ => none }
def ImageDecodesWrongFalsely : Prop := imageDecodesRow.holds Try.pinned (OpenSpec.ofChange imageDecodesWrong)

/-- 'hopmeshlaw46.ImageReturns': WHATEVER THE INPUT: true; the input reads as it did. -/
def imageReturnsSpec : ChangeSpec := { name := "imageReturns", fn := fun _ => fun
  | [d1, d2] => { results := [.lit (.bool true)], args := [d1, d2] }
  | _ => none }
def imageReturnsRow : OpenClaim := { program := "ytnfcohpljgmaiaa", sum := "632dec79bc096f347096ee4bbda0c9b597d2d52d65a19a2efa3066566262e806", func := "hopmesh/hopmeshlaw46.ImageReturns", spec := "imageReturns", inPlace := ["internal/abi.NoEscape", "internal/bytealg.MakeNoZero"], unfollowed := true, recurses := true, apart := false }
def ImageReturnsSaid : Prop := imageReturnsRow.holds Try.pinned (OpenSpec.ofChange imageReturnsSpec)

/-- ITS FALSE NEIGHBOUR: 'it returns false'. Refute it at one input. -/
def imageReturnsWrong : ChangeSpec := { name := "imageReturns", fn := fun _ => fun
  | [d1, d2] => { results := [.lit (.bool false)], args := [d1, d2] }
  | _ => none }
def ImageReturnsWrongFalsely : Prop := imageReturnsRow.holds Try.pinned (OpenSpec.ofChange imageReturnsWrong)

/- THE SECOND FORM. 'bulk': how many values and letters a reading holds, each counted each time it is reached (what is shared counts as often as it is met; a slice's spare places count too). A statement '..UptoSaid' is the law's where the arguments, and the package variables that the reading takes, are together of bulk at most 1048576: NARROWER than '..Said'. Prove '..Said' where nothing that the law and all that it calls make is longer than what came in: it says more and counts as full. Else prove '..UptoSaid'. A law counts once. -/
mutual
def uptoBulk {H : Type} : DataW H → Nat
  | .lit (.string bytes) => bytes.length + 1
  | .lit _ => 1
  | .nil => 1
  | .ptr d => uptoBulk d + 1
  | .slice elems spare => uptoBulkAll elems + uptoBulkAll spare + 1
  | .agg parts => uptoBulkAll parts + 1
  | .iface _ d => uptoBulk d + 1
  | .map entries => uptoBulkEntries entries + 1
  | .held _ => 1
def uptoBulkAll {H : Type} : List (DataW H) → Nat
  | [] => 0
  | d :: r => uptoBulk d + uptoBulkAll r
def uptoBulkEntries {H : Type} : List (Lit × DataW H) → Nat
  | [] => 0
  | x :: r => uptoBulkEntry x + uptoBulkEntries r
def uptoBulkEntry {H : Type} : Lit × DataW H → Nat
  | (.string bytes, d) => bytes.length + uptoBulk d + 1
  | (_, d) => uptoBulk d + 1
 end
def uptoSmall : (H : Type) → List (DataW H) → Bool := fun _ ds => decide (uptoBulkAll ds ≤ 1048576)
def OpenSpec.upto (s : _root_.Go.ChangeSpec) : _root_.Go.OpenSpec := { _root_.Go.OpenSpec.ofChange s with cond := some uptoSmall }

/-- 'hopmeshlaw46.ImageMakes', WHERE WHAT IT READS IS OF BULK AT MOST 1048576: true; the input reads as it did. -/
def imageMakesUptoRow : OpenClaim := { program := "ytnfcohpljgmaiaa", sum := "632dec79bc096f347096ee4bbda0c9b597d2d52d65a19a2efa3066566262e806", func := "hopmesh/hopmeshlaw46.ImageMakes", spec := "imageMakes", inPlace := ["internal/abi.NoEscape", "internal/bytealg.MakeNoZero"], unfollowed := true, recurses := true, apart := false, narrowed := true }
def ImageMakesUptoSaid : Prop := imageMakesUptoRow.holds Try.pinned (OpenSpec.upto imageMakesSpec)

/-- 'hopmeshlaw46.ImageDivides', WHERE WHAT IT READS IS OF BULK AT MOST 1048576: true; the input reads as it did. -/
def imageDividesUptoRow : OpenClaim := { program := "ytnfcohpljgmaiaa", sum := "632dec79bc096f347096ee4bbda0c9b597d2d52d65a19a2efa3066566262e806", func := "hopmesh/hopmeshlaw46.ImageDivides", spec := "imageDivides", inPlace := ["internal/abi.NoEscape", "internal/bytealg.MakeNoZero"], unfollowed := true, recurses := true, apart := false, narrowed := true }
def ImageDividesUptoSaid : Prop := imageDividesUptoRow.holds Try.pinned (OpenSpec.upto imageDividesSpec)

/-- 'hopmeshlaw46.ImageCovers', WHERE WHAT IT READS IS OF BULK AT MOST 1048576: true; the input reads as it did. -/
def imageCoversUptoRow : OpenClaim := { program := "ytnfcohpljgmaiaa", sum := "632dec79bc096f347096ee4bbda0c9b597d2d52d65a19a2efa3066566262e806", func := "hopmesh/hopmeshlaw46.ImageCovers", spec := "imageCovers", inPlace := ["internal/abi.NoEscape", "internal/bytealg.MakeNoZero"], unfollowed := true, recurses := true, apart := false, narrowed := true }
def ImageCoversUptoSaid : Prop := imageCoversUptoRow.holds Try.pinned (OpenSpec.upto imageCoversSpec)

/-- 'hopmeshlaw46.ImageChecks', WHERE WHAT IT READS IS OF BULK AT MOST 1048576: true; the input reads as it did. -/
def imageChecksUptoRow : OpenClaim := { program := "ytnfcohpljgmaiaa", sum := "632dec79bc096f347096ee4bbda0c9b597d2d52d65a19a2efa3066566262e806", func := "hopmesh/hopmeshlaw46.ImageChecks", spec := "imageChecks", inPlace := ["internal/abi.NoEscape", "internal/bytealg.MakeNoZero"], unfollowed := true, recurses := true, apart := false, narrowed := true }
def ImageChecksUptoSaid : Prop := imageChecksUptoRow.holds Try.pinned (OpenSpec.upto imageChecksSpec)

/-- 'hopmeshlaw46.ImageVerifies', WHERE WHAT IT READS IS OF BULK AT MOST 1048576: true; the input reads as it did. -/
def imageVerifiesUptoRow : OpenClaim := { program := "ytnfcohpljgmaiaa", sum := "632dec79bc096f347096ee4bbda0c9b597d2d52d65a19a2efa3066566262e806", func := "hopmesh/hopmeshlaw46.ImageVerifies", spec := "imageVerifies", inPlace := ["internal/abi.NoEscape", "internal/bytealg.MakeNoZero"], unfollowed := true, recurses := true, apart := false, narrowed := true }
def ImageVerifiesUptoSaid : Prop := imageVerifiesUptoRow.holds Try.pinned (OpenSpec.upto imageVerifiesSpec)

/-- 'hopmeshlaw46.ImageIntact', WHERE WHAT IT READS IS OF BULK AT MOST 1048576: true; the input reads as it did. -/
def imageIntactUptoRow : OpenClaim := { program := "ytnfcohpljgmaiaa", sum := "632dec79bc096f347096ee4bbda0c9b597d2d52d65a19a2efa3066566262e806", func := "hopmesh/hopmeshlaw46.ImageIntact", spec := "imageIntact", inPlace := ["internal/abi.NoEscape", "internal/bytealg.MakeNoZero"], unfollowed := true, recurses := true, apart := false, narrowed := true }
def ImageIntactUptoSaid : Prop := imageIntactUptoRow.holds Try.pinned (OpenSpec.upto imageIntactSpec)

/-- 'hopmeshlaw46.ImageDecodes', WHERE WHAT IT READS IS OF BULK AT MOST 1048576: true; the input reads as it did. -/
def imageDecodesUptoRow : OpenClaim := { program := "ytnfcohpljgmaiaa", sum := "632dec79bc096f347096ee4bbda0c9b597d2d52d65a19a2efa3066566262e806", func := "hopmesh/hopmeshlaw46.ImageDecodes", spec := "imageDecodes", inPlace := ["internal/abi.NoEscape", "internal/bytealg.MakeNoZero"], unfollowed := true, recurses := true, apart := false, narrowed := true }
def ImageDecodesUptoSaid : Prop := imageDecodesUptoRow.holds Try.pinned (OpenSpec.upto imageDecodesSpec)

/-- 'hopmeshlaw46.ImageReturns', WHERE WHAT IT READS IS OF BULK AT MOST 1048576: true; the input reads as it did. -/
def imageReturnsUptoRow : OpenClaim := { program := "ytnfcohpljgmaiaa", sum := "632dec79bc096f347096ee4bbda0c9b597d2d52d65a19a2efa3066566262e806", func := "hopmesh/hopmeshlaw46.ImageReturns", spec := "imageReturns", inPlace := ["internal/abi.NoEscape", "internal/bytealg.MakeNoZero"], unfollowed := true, recurses := true, apart := false, narrowed := true }
def ImageReturnsUptoSaid : Prop := imageReturnsUptoRow.holds Try.pinned (OpenSpec.upto imageReturnsSpec)

end Rows
end Go.Proofs.Ytnfcohpljgmaiaa
