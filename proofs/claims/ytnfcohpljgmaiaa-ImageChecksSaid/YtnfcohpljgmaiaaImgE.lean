/- image.Decode -/
import Derived.Test.YtnfcohpljgmaiaaImgD
namespace Go.Proofs.Ytnfcohpljgmaiaa
open Go.RowKit Go.Shelf Go.Proofs.YtnfcohpljgmaiaaW.PrintLast Go.Proofs.YtnfcohpljgmaiaaW.PrintWords Go.Proofs.Ytnfcohpljgmaiaa.B
attribute [local go_sem] Oper.semAt_some

def dbad (d : ByteArray) : Prop := (d.size : Int) < 9 ∨ ((d.size : Int) - 9) % 32 ≠ 0 ∨ (d.size : Int) > 2057
instance (d : ByteArray) : Decidable (dbad d) := by unfold dbad; infer_instance
end Go.Proofs.Ytnfcohpljgmaiaa
