/-
  No cell of these rows narrows 'for every input' (looked for: loops, veiled, ifaces, maps, wideKeys, modest, calm, conditions, laid).
  DERIVED. THE GIVEN ROWS OF THIS SEAT. 8 by the template 'for every input the law returns true; each argument reads behind the call as it read before'; 0 by the template 'total and deterministic' (their statements: YtkkoldfaplonaaaTotals.lean).
  GIVEN WITH THE SEED: the statements are not yours to turn. If you find one false, say at which input.
  Laid BY PROGRAM, IN A SANDBOX (cutbox-rows.mjs): the forced cells as the released guide's own fill.sh prints them over the translation 08cee301e3f9b951… (all of the seat's roots in one cut). By AI agents, Wed Nov 11 2026. No macro, syntax, notation, axiom, sorry.
-/
import Derived.Test.YtkkoldfaplonaaaChecked
import GoSem.Claim
import GoSem.ClaimJoined
import GoSem.ClaimMapViews
import Derived.JoinedTies
import Derived.KernelRfl
namespace Go.Proofs.Ytkkoldfaplonaaa
/- THE CELL 'sum', in the pinned program and in every row, IS THE sha256 OF THE DUMP (.gsa) THAT YtkkoldfaplonaaaProg.lean LOADS. Nothing in Lean hashes anything: it is a label: what it is worth is what the hold of that sum in a sandbox is worth. -/
noncomputable def Try.pinned : Pinned := { name := "ytkkoldfaplonaaa", sum := "08cee301e3f9b9518f7e9eff42bff2ff4fc840c6438bba7d62e18ace4476ded3", checked := Try.checked }
namespace Rows
def none {H : Type} : Left H := { results := [], args := [] }

/-- 'hopmeshlaw01.DigestSums': WHATEVER THE INPUT: true; the input reads as it did. -/
def digestSumsSpec : ChangeSpec := { name := "digestSums", fn := fun _ => fun
  | [d] => { results := [.lit (.bool true)], args := [d] }
  | _ => none }
def digestSumsRow : OpenClaim := { program := "ytkkoldfaplonaaa", sum := "08cee301e3f9b9518f7e9eff42bff2ff4fc840c6438bba7d62e18ace4476ded3", func := "hopmesh/hopmeshlaw01.DigestSums", spec := "digestSums", apart := false }
def DigestSumsSaid : Prop := digestSumsRow.holds Try.pinned (OpenSpec.ofChange digestSumsSpec)

/-- ITS FALSE NEIGHBOUR: 'it returns false'. Refute it at one input. -/
def digestSumsWrong : ChangeSpec := { name := "digestSums", fn := fun _ => fun
  | [d] => { results := [.lit (.bool false)], args := [d] }
  | _ => none }
def DigestSumsWrongFalsely : Prop := digestSumsRow.holds Try.pinned (OpenSpec.ofChange digestSumsWrong)

/-- 'hopmeshlaw01.DigestKeyed': WHATEVER THE INPUT: true; the input reads as it did. -/
def digestKeyedSpec : ChangeSpec := { name := "digestKeyed", fn := fun _ => fun
  | [d1, d2] => { results := [.lit (.bool true)], args := [d1, d2] }
  | _ => none }
def digestKeyedRow : OpenClaim := { program := "ytkkoldfaplonaaa", sum := "08cee301e3f9b9518f7e9eff42bff2ff4fc840c6438bba7d62e18ace4476ded3", func := "hopmesh/hopmeshlaw01.DigestKeyed", spec := "digestKeyed", apart := false }
def DigestKeyedSaid : Prop := digestKeyedRow.holds Try.pinned (OpenSpec.ofChange digestKeyedSpec)

/-- ITS FALSE NEIGHBOUR: 'it returns false'. Refute it at one input. -/
def digestKeyedWrong : ChangeSpec := { name := "digestKeyed", fn := fun _ => fun
  | [d1, d2] => { results := [.lit (.bool false)], args := [d1, d2] }
  | _ => none }
def DigestKeyedWrongFalsely : Prop := digestKeyedRow.holds Try.pinned (OpenSpec.ofChange digestKeyedWrong)

/-- 'hopmeshlaw01.DigestCompresses': WHATEVER THE INPUT: true; the input reads as it did. -/
def digestCompressesSpec : ChangeSpec := { name := "digestCompresses", fn := fun _ => fun
  | [d1, d2] => { results := [.lit (.bool true)], args := [d1, d2] }
  | _ => none }
def digestCompressesRow : OpenClaim := { program := "ytkkoldfaplonaaa", sum := "08cee301e3f9b9518f7e9eff42bff2ff4fc840c6438bba7d62e18ace4476ded3", func := "hopmesh/hopmeshlaw01.DigestCompresses", spec := "digestCompresses", apart := false }
def DigestCompressesSaid : Prop := digestCompressesRow.holds Try.pinned (OpenSpec.ofChange digestCompressesSpec)

/-- ITS FALSE NEIGHBOUR: 'it returns false'. Refute it at one input. -/
def digestCompressesWrong : ChangeSpec := { name := "digestCompresses", fn := fun _ => fun
  | [d1, d2] => { results := [.lit (.bool false)], args := [d1, d2] }
  | _ => none }
def DigestCompressesWrongFalsely : Prop := digestCompressesRow.holds Try.pinned (OpenSpec.ofChange digestCompressesWrong)

/-- 'hopmeshlaw01.DigestMixes': WHATEVER THE INPUT: true; the input reads as it did. -/
def digestMixesSpec : ChangeSpec := { name := "digestMixes", fn := fun _ => fun
  | [d1, d2, d3] => { results := [.lit (.bool true)], args := [d1, d2, d3] }
  | _ => none }
def digestMixesRow : OpenClaim := { program := "ytkkoldfaplonaaa", sum := "08cee301e3f9b9518f7e9eff42bff2ff4fc840c6438bba7d62e18ace4476ded3", func := "hopmesh/hopmeshlaw01.DigestMixes", spec := "digestMixes", apart := false }
def DigestMixesSaid : Prop := digestMixesRow.holds Try.pinned (OpenSpec.ofChange digestMixesSpec)

/-- ITS FALSE NEIGHBOUR: 'it returns false'. Refute it at one input. -/
def digestMixesWrong : ChangeSpec := { name := "digestMixes", fn := fun _ => fun
  | [d1, d2, d3] => { results := [.lit (.bool false)], args := [d1, d2, d3] }
  | _ => none }
def DigestMixesWrongFalsely : Prop := digestMixesRow.holds Try.pinned (OpenSpec.ofChange digestMixesWrong)

/-- 'hopmeshlaw01.DigestStream': WHATEVER THE INPUT: true; the input reads as it did. -/
def digestStreamSpec : ChangeSpec := { name := "digestStream", fn := fun _ => fun
  | [d] => { results := [.lit (.bool true)], args := [d] }
  | _ => none }
def digestStreamRow : OpenClaim := { program := "ytkkoldfaplonaaa", sum := "08cee301e3f9b9518f7e9eff42bff2ff4fc840c6438bba7d62e18ace4476ded3", func := "hopmesh/hopmeshlaw01.DigestStream", spec := "digestStream", apart := false }
def DigestStreamSaid : Prop := digestStreamRow.holds Try.pinned (OpenSpec.ofChange digestStreamSpec)

/-- ITS FALSE NEIGHBOUR: 'it returns false'. Refute it at one input. -/
def digestStreamWrong : ChangeSpec := { name := "digestStream", fn := fun _ => fun
  | [d] => { results := [.lit (.bool false)], args := [d] }
  | _ => none }
def DigestStreamWrongFalsely : Prop := digestStreamRow.holds Try.pinned (OpenSpec.ofChange digestStreamWrong)

/-- 'hopmeshlaw01.DigestTexts': WHATEVER THE INPUT: true; the input reads as it did. -/
def digestTextsSpec : ChangeSpec := { name := "digestTexts", fn := fun _ => fun
  | [d] => { results := [.lit (.bool true)], args := [d] }
  | _ => none }
def digestTextsRow : OpenClaim := { program := "ytkkoldfaplonaaa", sum := "08cee301e3f9b9518f7e9eff42bff2ff4fc840c6438bba7d62e18ace4476ded3", func := "hopmesh/hopmeshlaw01.DigestTexts", spec := "digestTexts", apart := false }
def DigestTextsSaid : Prop := digestTextsRow.holds Try.pinned (OpenSpec.ofChange digestTextsSpec)

/-- ITS FALSE NEIGHBOUR: 'it returns false'. Refute it at one input. -/
def digestTextsWrong : ChangeSpec := { name := "digestTexts", fn := fun _ => fun
  | [d] => { results := [.lit (.bool false)], args := [d] }
  | _ => none }
def DigestTextsWrongFalsely : Prop := digestTextsRow.holds Try.pinned (OpenSpec.ofChange digestTextsWrong)

/-- 'hopmeshlaw01.DigestKeys': WHATEVER THE INPUT: true; the input reads as it did. -/
def digestKeysSpec : ChangeSpec := { name := "digestKeys", fn := fun _ => fun
  | [d1, d2, d3] => { results := [.lit (.bool true)], args := [d1, d2, d3] }
  | _ => none }
def digestKeysRow : OpenClaim := { program := "ytkkoldfaplonaaa", sum := "08cee301e3f9b9518f7e9eff42bff2ff4fc840c6438bba7d62e18ace4476ded3", func := "hopmesh/hopmeshlaw01.DigestKeys", spec := "digestKeys", apart := false }
def DigestKeysSaid : Prop := digestKeysRow.holds Try.pinned (OpenSpec.ofChange digestKeysSpec)

/-- ITS FALSE NEIGHBOUR: 'it returns false'. Refute it at one input. -/
def digestKeysWrong : ChangeSpec := { name := "digestKeys", fn := fun _ => fun
  | [d1, d2, d3] => { results := [.lit (.bool false)], args := [d1, d2, d3] }
  | _ => none }
def DigestKeysWrongFalsely : Prop := digestKeysRow.holds Try.pinned (OpenSpec.ofChange digestKeysWrong)

/-- 'hopmeshlaw01.DigestClones': WHATEVER THE INPUT: true; the input reads as it did. -/
def digestClonesSpec : ChangeSpec := { name := "digestClones", fn := fun _ => fun
  | [d1, d2, d3] => { results := [.lit (.bool true)], args := [d1, d2, d3] }
  | _ => none }
def digestClonesRow : OpenClaim := { program := "ytkkoldfaplonaaa", sum := "08cee301e3f9b9518f7e9eff42bff2ff4fc840c6438bba7d62e18ace4476ded3", func := "hopmesh/hopmeshlaw01.DigestClones", spec := "digestClones", apart := false }
def DigestClonesSaid : Prop := digestClonesRow.holds Try.pinned (OpenSpec.ofChange digestClonesSpec)

/-- ITS FALSE NEIGHBOUR: 'it returns false'. Refute it at one input. -/
def digestClonesWrong : ChangeSpec := { name := "digestClones", fn := fun _ => fun
  | [d1, d2, d3] => { results := [.lit (.bool false)], args := [d1, d2, d3] }
  | _ => none }
def DigestClonesWrongFalsely : Prop := digestClonesRow.holds Try.pinned (OpenSpec.ofChange digestClonesWrong)

/- THE SECOND FORM. 'bulk': how many values and letters a reading holds, each counted each time it is reached (what is shared counts as often as it is met; a slice's spare places count too). A statement '..UptoSaid' is the law's where the arguments, and the package variables that the reading takes, are together of bulk at most 1048576: NARROWER than '..Said'. Prove '..Said' where nothing that the law and all that it calls make is longer than what came in: it says more and counts as full. Else prove '..UptoSaid'. A law counts once. -/
mutual
def uptoBulk {H : Type} : DataW H → Nat
  | .lit (.string bytes) => bytes.length + 1
  | .lit _ => 1
  | .nil => 1
  | .ptr d => uptoBulk d + 1
  | .slice elems spare => uptoBulkAll elems + uptoBulkAll spare + 1
  | .agg parts => uptoBulkAll parts + 1
  | .iface _ d => uptoBulk d + 1
  | .map entries => uptoBulkEntries entries + 1
  | .held _ => 1
def uptoBulkAll {H : Type} : List (DataW H) → Nat
  | [] => 0
  | d :: r => uptoBulk d + uptoBulkAll r
def uptoBulkEntries {H : Type} : List (Lit × DataW H) → Nat
  | [] => 0
  | x :: r => uptoBulkEntry x + uptoBulkEntries r
def uptoBulkEntry {H : Type} : Lit × DataW H → Nat
  | (.string bytes, d) => bytes.length + uptoBulk d + 1
  | (_, d) => uptoBulk d + 1
 end
def uptoSmall : (H : Type) → List (DataW H) → Bool := fun _ ds => decide (uptoBulkAll ds ≤ 1048576)
def OpenSpec.upto (s : _root_.Go.ChangeSpec) : _root_.Go.OpenSpec := { _root_.Go.OpenSpec.ofChange s with cond := some uptoSmall }

/-- 'hopmeshlaw01.DigestSums', WHERE WHAT IT READS IS OF BULK AT MOST 1048576: true; the input reads as it did. -/
def digestSumsUptoRow : OpenClaim := { program := "ytkkoldfaplonaaa", sum := "08cee301e3f9b9518f7e9eff42bff2ff4fc840c6438bba7d62e18ace4476ded3", func := "hopmesh/hopmeshlaw01.DigestSums", spec := "digestSums", apart := false, narrowed := true }
def DigestSumsUptoSaid : Prop := digestSumsUptoRow.holds Try.pinned (OpenSpec.upto digestSumsSpec)

/-- 'hopmeshlaw01.DigestKeyed', WHERE WHAT IT READS IS OF BULK AT MOST 1048576: true; the input reads as it did. -/
def digestKeyedUptoRow : OpenClaim := { program := "ytkkoldfaplonaaa", sum := "08cee301e3f9b9518f7e9eff42bff2ff4fc840c6438bba7d62e18ace4476ded3", func := "hopmesh/hopmeshlaw01.DigestKeyed", spec := "digestKeyed", apart := false, narrowed := true }
def DigestKeyedUptoSaid : Prop := digestKeyedUptoRow.holds Try.pinned (OpenSpec.upto digestKeyedSpec)

/-- 'hopmeshlaw01.DigestCompresses', WHERE WHAT IT READS IS OF BULK AT MOST 1048576: true; the input reads as it did. -/
def digestCompressesUptoRow : OpenClaim := { program := "ytkkoldfaplonaaa", sum := "08cee301e3f9b9518f7e9eff42bff2ff4fc840c6438bba7d62e18ace4476ded3", func := "hopmesh/hopmeshlaw01.DigestCompresses", spec := "digestCompresses", apart := false, narrowed := true }
def DigestCompressesUptoSaid : Prop := digestCompressesUptoRow.holds Try.pinned (OpenSpec.upto digestCompressesSpec)

/-- 'hopmeshlaw01.DigestMixes', WHERE WHAT IT READS IS OF BULK AT MOST 1048576: true; the input reads as it did. -/
def digestMixesUptoRow : OpenClaim := { program := "ytkkoldfaplonaaa", sum := "08cee301e3f9b9518f7e9eff42bff2ff4fc840c6438bba7d62e18ace4476ded3", func := "hopmesh/hopmeshlaw01.DigestMixes", spec := "digestMixes", apart := false, narrowed := true }
def DigestMixesUptoSaid : Prop := digestMixesUptoRow.holds Try.pinned (OpenSpec.upto digestMixesSpec)

/-- 'hopmeshlaw01.DigestStream', WHERE WHAT IT READS IS OF BULK AT MOST 1048576: true; the input reads as it did. -/
def digestStreamUptoRow : OpenClaim := { program := "ytkkoldfaplonaaa", sum := "08cee301e3f9b9518f7e9eff42bff2ff4fc840c6438bba7d62e18ace4476ded3", func := "hopmesh/hopmeshlaw01.DigestStream", spec := "digestStream", apart := false, narrowed := true }
def DigestStreamUptoSaid : Prop := digestStreamUptoRow.holds Try.pinned (OpenSpec.upto digestStreamSpec)

/-- 'hopmeshlaw01.DigestTexts', WHERE WHAT IT READS IS OF BULK AT MOST 1048576: true; the input reads as it did. -/
def digestTextsUptoRow : OpenClaim := { program := "ytkkoldfaplonaaa", sum := "08cee301e3f9b9518f7e9eff42bff2ff4fc840c6438bba7d62e18ace4476ded3", func := "hopmesh/hopmeshlaw01.DigestTexts", spec := "digestTexts", apart := false, narrowed := true }
def DigestTextsUptoSaid : Prop := digestTextsUptoRow.holds Try.pinned (OpenSpec.upto digestTextsSpec)

/-- 'hopmeshlaw01.DigestKeys', WHERE WHAT IT READS IS OF BULK AT MOST 1048576: true; the input reads as it did. -/
def digestKeysUptoRow : OpenClaim := { program := "ytkkoldfaplonaaa", sum := "08cee301e3f9b9518f7e9eff42bff2ff4fc840c6438bba7d62e18ace4476ded3", func := "hopmesh/hopmeshlaw01.DigestKeys", spec := "digestKeys", apart := false, narrowed := true }
def DigestKeysUptoSaid : Prop := digestKeysUptoRow.holds Try.pinned (OpenSpec.upto digestKeysSpec)

/-- 'hopmeshlaw01.DigestClones', WHERE WHAT IT READS IS OF BULK AT MOST 1048576: true; the input reads as it did. -/
def digestClonesUptoRow : OpenClaim := { program := "ytkkoldfaplonaaa", sum := "08cee301e3f9b9518f7e9eff42bff2ff4fc840c6438bba7d62e18ace4476ded3", func := "hopmesh/hopmeshlaw01.DigestClones", spec := "digestClones", apart := false, narrowed := true }
def DigestClonesUptoSaid : Prop := digestClonesUptoRow.holds Try.pinned (OpenSpec.upto digestClonesSpec)

end Rows
end Go.Proofs.Ytkkoldfaplonaaa
