/- The contracts of image's functions in the form that the printed texts call. -/
import Derived.Test.YtnfcohpljgmaiaaImgD
namespace Go.Proofs.Ytnfcohpljgmaiaa
open Go.RowKit Go.Proofs.YtnfcohpljgmaiaaW.PrintWords Go.Proofs.Ytnfcohpljgmaiaa.B

def fCheck (V S P K : Int) (l : List ByteArray) : Option Int := some (if okMan V S P K l = true then 0 else 1)
theorem cCheck (V S P K : Int) (A : Option Addr) (c : Nat) (l : List ByteArray) (r : Int) (w : World) (hr : Kd.C Kd.string w A l.length l) (h : fCheck V S P K l = some r) :
    Calls Try.prog 20 #[.agg #[.int .i64 V, .int .i64 S, .int .i64 P, .int .i64 K, .slice A l.length c]] w fun e w' => e = .returned (.int .i64 r) ∧ Below w.heap.size w w' := by
  obtain rfl := Option.some.inj h
  exact check_man V S P K A c l w (strs_of hr) hr.2.1
end Go.Proofs.Ytnfcohpljgmaiaa
