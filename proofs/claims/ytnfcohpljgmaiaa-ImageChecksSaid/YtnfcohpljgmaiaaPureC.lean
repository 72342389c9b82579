/- ImageChecks: Check, Encode and ID are the reference's, at each manifest. -/
import Derived.Test.YtnfcohpljgmaiaaQCx0
import Derived.Test.YtnfcohpljgmaiaaQCx1
import Derived.Test.YtnfcohpljgmaiaaQCx2
import Derived.Test.YtnfcohpljgmaiaaRef
namespace Go.Proofs.Ytnfcohpljgmaiaa.PC
open Go.RowKit Go.Proofs.Ytnfcohpljgmaiaa.QC Go.Proofs.YtnfcohpljgmaiaaW.PrintWords Go.Proofs.YtnfcohpljgmaiaaW.PrintLast

theorem checks (V S P K : Int) (l : List ByteArray) : hopmeshlaw46_ImageChecks.f 1 V S P K l = some true := by
  have e1 : image_Encode.f V S P K l = _ := PR.Encode_at V S P K l
  have e2 : hopmeshref46_Encode.f V S P K l = _ := PR.Encode_at V S P K l
  have e3 : image_ID.f V S P K l = _ := PR.ID_at V S P K l
  have e4 : hopmeshref46_ID.f V S P K l = _ := PR.ID_at V S P K l
  have e5 : image_Check.f V S P K l = some (if okMan V S P K l = true then 0 else 1) := rfl
  have e6 : hopmeshref46_Check.f V S P K l = some (if okMan V S P K l = true then 0 else 1) := rfl
  have hyes : hopmeshlaw46_ImageChecks.j0 1 true V S P K l = some true := rfl
  unfold hopmeshlaw46_ImageChecks.f
  show (some true).bind _ = _
  rw [Option.bind_some, if_pos rfl]
  show (some (PR.fewB l)).bind _ = _
  rw [Option.bind_some]
  cases PR.fewB l
  · exact hyes
  · show hopmeshlaw46_ImageChecks.j0 1 false V S P K l = some true
    rw [hopmeshlaw46_ImageChecks.j0, if_neg (by simp), e1, e2, e3, e4, e5, e6]
    by_cases hok : okMan V S P K l = true
    · simp only [if_pos hok, Option.bind_some, if_true]
      rfl
    · simp only [if_neg hok, Option.bind_some, if_true]
      rfl
theorem row (V S P K : Int) (A : Option Addr) (c : Nat) (l : List ByteArray) (w : World) (hC : Kd.C Kd.string w A l.length l) (hc : l.length ≤ c) :
    Calls Try.prog 6 #[.agg #[.int .i64 V, .int .i64 S, .int .i64 P, .int .i64 K, .slice A l.length c]] w fun e w' => e = .returned (.bool true) ∧ Below w.heap.size w w' :=
  hopmeshlaw46_ImageChecks.calls 1 V S P K A c l true w hC hc (checks V S P K l)

end Go.Proofs.Ytnfcohpljgmaiaa.PC
