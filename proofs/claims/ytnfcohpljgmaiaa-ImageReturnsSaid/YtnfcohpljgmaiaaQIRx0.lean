-- Printed by a program of this session's (wip/pr.py) with contracts of its own; not the kit's print.
import Derived.Test.YtnfcohpljgmaiaaProg
import Derived.Below
import Derived.Deep.Draws
import Derived.Deep.AppendLies
import Derived.Maps.AppendAt
import Derived.OwnWalk
import Derived.Laws.BytesArg
import Derived.Laws.MakeOwn
import Derived.Laws.OwnMore
import Derived.Deep.OwnRows
import Derived.Tactics
import Derived.Lib.ConvBytes
import Derived.Laws.Slices
import Derived.WalkKit
import Derived.KernelRfl
import Derived.RowKit3
import Derived.Deep.LoopGhost
import Derived.Deep.QuietTactic
import Derived.BigQuiet
import Derived.WideLaws
import Derived.Deep.DeepCutAuto
import Derived.Deep.CutBlock
import Derived.Deep.RegionHeld3
import Derived.Laws.Rows
import Derived.Lib.AppendStr
import Derived.ArgAppend
import Derived.Laws.IdiomCopy
import Derived.OrdersHeld
import Derived.Laws.BitsLemmas
import Derived.RowKit
import Derived.Test.YtnfcohpljgmaiaaImgH
import Derived.Test.YtnfcohpljgmaiaaImgE
import Derived.Test.YtnfcohpljgmaiaaImgGa
import Derived.Test.YtnfcohpljgmaiaaRef
import Derived.Test.YtnfcohpljgmaiaaWWords
import Derived.Test.YtnfcohpljgmaiaaWLast
import Derived.Test.YtnfcohpljgmaiaaWTab
import Derived.Test.YtnfcohpljgmaiaaWApart
import Derived.Test.YtnfcohpljgmaiaaWFoot
import Derived.Test.YtnfcohpljgmaiaaWKept
import Derived.Test.YtnfcohpljgmaiaaWShare
import Derived.Test.YtnfcohpljgmaiaaWN
import Derived.Laws.StructEq
import Derived.Test.YtnfcohpljgmaiaaWRepsOne
import Derived.Test.YtnfcohpljgmaiaaWInv
import Derived.Test.YtnfcohpljgmaiaaWGuard
import Derived.Test.YtnfcohpljgmaiaaWMore
namespace Go.Proofs.Ytnfcohpljgmaiaa.QIR
open Go.RowKit Go.Proofs.YtnfcohpljgmaiaaW.PrintWords Go.Proofs.YtnfcohpljgmaiaaW.PrintLast Go.Proofs.YtnfcohpljgmaiaaW.PrintMore
attribute [local go_sem] max2_int min2_int max_two min_two max_three min_three max_four min_four   -- for this text's walks alone
set_option linter.unusedVariables false
set_option linter.unusedSimpArgs false



def errW : Option Int → Value
  | none => .nilIface
  | some c => .iface 0 (.int .i64 c)
theorem errW_none : errW none = .nilIface := rfl
theorem errW_some (c : Int) : errW (some c) = .iface 0 (.int .i64 c) := rfl

-- the values' own types
/-! #### struct type 25 -/
structure S25 where
  f0 : Int
  f1 : Int
  f2 : Int
  f3 : Int
  f4 : (List ByteArray)
end Go.Proofs.Ytnfcohpljgmaiaa.QIR
