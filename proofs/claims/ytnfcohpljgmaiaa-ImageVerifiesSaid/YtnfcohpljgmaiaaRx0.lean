/- The contract of image.Intact in the printed form (image.Decode's: ImgE). -/
import Derived.Test.YtnfcohpljgmaiaaImgF
import Derived.Test.YtnfcohpljgmaiaaAx0
import Derived.Test.YtnfcohpljgmaiaaProg
import Derived.Below
import Derived.Deep.Draws
import Derived.Deep.AppendLies
import Derived.Maps.AppendAt
import Derived.OwnWalk
import Derived.Laws.BytesArg
import Derived.Laws.MakeOwn
import Derived.Laws.OwnMore
import Derived.Deep.OwnRows
import Derived.Tactics
import Derived.Lib.ConvBytes
import Derived.Laws.Slices
import Derived.WalkKit
import Derived.KernelRfl
import Derived.RowKit3
import Derived.Deep.LoopGhost
import Derived.Deep.QuietTactic
import Derived.BigQuiet
import Derived.WideLaws
import Derived.Deep.DeepCutAuto
import Derived.Deep.CutBlock
import Derived.Deep.RegionHeld3
import Derived.Laws.Rows
import Derived.Lib.AppendStr
import Derived.ArgAppend
import Derived.Laws.IdiomCopy
import Derived.OrdersHeld
import Derived.Laws.BitsLemmas
import Derived.RowKit
import Derived.Test.YtnfcohpljgmaiaaAx1
import Derived.Test.YtnfcohpljgmaiaaAx2
import Derived.Test.YtnfcohpljgmaiaaAx3
import Derived.Test.YtnfcohpljgmaiaaWWords
import Derived.Test.YtnfcohpljgmaiaaWLast
import Derived.Test.YtnfcohpljgmaiaaWTab
import Derived.Test.YtnfcohpljgmaiaaWApart
import Derived.Test.YtnfcohpljgmaiaaWKept
import Derived.Test.YtnfcohpljgmaiaaWN
import Derived.Laws.StructEq
import Derived.Test.YtnfcohpljgmaiaaWGuard
import Derived.Test.YtnfcohpljgmaiaaWMore
section
namespace Go.Proofs.Ytnfcohpljgmaiaa
open Go.RowKit Go.Proofs.YtnfcohpljgmaiaaW.PrintWords Go.Proofs.Ytnfcohpljgmaiaa.B

theorem cIntact (V S P K : Int) (A : Option Addr) (c : Nat) (l : List ByteArray) (d : ByteArray) (r : Int) (w : World) (hr : Kd.C Kd.string w A l.length l) (h : fIntact V S P K l d = some r) :
    Calls Try.prog 28 #[.agg #[.int .i64 V, .int .i64 S, .int .i64 P, .int .i64 K, .slice A l.length c], .string d] w fun e w' => e = .returned (.int .i64 r) ∧ Below w.heap.size w w' :=
  intact_any V S P K A c l d r w (strs_of hr) h

end Go.Proofs.Ytnfcohpljgmaiaa
end
section
namespace Go.Proofs.Ytnfcohpljgmaiaa.R
open Go.RowKit Go.Proofs.YtnfcohpljgmaiaaW.PrintWords Go.Proofs.YtnfcohpljgmaiaaW.PrintLast Go.Proofs.YtnfcohpljgmaiaaW.PrintMore
attribute [local go_sem] max2_int min2_int max_two min_two max_three min_three max_four min_four   -- for this text's walks alone
set_option linter.unusedVariables false
set_option linter.unusedSimpArgs false



def errW : Option Int → Value
  | none => .nilIface
  | some c => .iface 0 (.int .i64 c)
theorem errW_none : errW none = .nilIface := rfl
theorem errW_some (c : Int) : errW (some c) = .iface 0 (.int .i64 c) := rfl

theorem info5 : (Try.prog.info? 5).map (fun i => (i.zero, i.size, i.bytes)) = some (some (.int .u8 0), 1, 1) := by kernel_rfl
theorem info9 : (Try.prog.info? 9).map (fun i => (i.zero, i.size, i.bytes)) = some (some (.string ⟨#[]⟩), 1, 16) := by kernel_rfl
-- the values' own types

end Go.Proofs.Ytnfcohpljgmaiaa.R
end
