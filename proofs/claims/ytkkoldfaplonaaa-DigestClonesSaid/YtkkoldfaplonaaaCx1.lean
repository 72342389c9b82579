-- Printed by a program of this session's (wip/pr.py) with contracts of its own; not the kit's print.
import Derived.Test.YtkkoldfaplonaaaCx0
namespace Go.Proofs.Ytkkoldfaplonaaa.C
open Go.RowKit Go.Proofs.YtkkoldfaplonaaaW.PrintWords Go.Proofs.YtkkoldfaplonaaaW.PrintLast Go.Proofs.YtkkoldfaplonaaaW.PrintMore
attribute [local go_sem] max2_int min2_int max_two min_two max_three min_three max_four min_four   -- for this text's walks alone
set_option linter.unusedVariables false
set_option linter.unusedSimpArgs false

/-! ### hopmeshlaw01_DigestClones: function 10 -/
def hopmeshlaw01_DigestClones.Pure : Prop := True
theorem hopmeshlaw01_DigestClones.walk (_ : hopmeshlaw01_DigestClones.Pure) (a0 a1 a2 : ByteArray) (w : World) (_ : a0.size ≤ 140737488351232) (_ : a1.size ≤ 140737488351232) (_ : a2.size ≤ 140737488351232) :
    Calls Try.prog 10 #[.string a0, .string a1, .string a2] w fun e w' => e = .returned (.bool true) ∧ Below w.heap.size w w' := clones_law a0 a1 a2 w

end Go.Proofs.Ytkkoldfaplonaaa.C
