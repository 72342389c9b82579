-- Printed by a program of this session's (wip/pr.py) with contracts of its own; not the kit's print.
import Derived.Test.YtnfcohpljgmaiaaQIVx0
namespace Go.Proofs.Ytnfcohpljgmaiaa.QIV
open Go.RowKit Go.Proofs.YtnfcohpljgmaiaaW.PrintWords Go.Proofs.YtnfcohpljgmaiaaW.PrintLast Go.Proofs.YtnfcohpljgmaiaaW.PrintMore
attribute [local go_sem] max2_int min2_int max_two min_two max_three min_three max_four min_four   -- for this text's walks alone
set_option linter.unusedVariables false
set_option linter.unusedSimpArgs false

/-! ### hopmeshlaw46_awake: function 11 -/
def hopmeshlaw46_awake.f : Option (Bool) := some true
theorem hopmeshlaw46_awake.calls (r : Bool) (w : World) (h : hopmeshlaw46_awake.f = some r) :
    Calls Try.prog 11 #[] w fun e w' => e = .returned (.bool r) ∧ Below w.heap.size w w' := cAwake r w h

/-! ### hopmeshref46_Few: function 15 -/
def hopmeshref46_Few.f (a0_0 : Int) (a0_1 : Int) (a0_2 : Int) (a0_3 : Int) (l0_4 : List ByteArray) : Option (Bool) := Go.Proofs.Ytnfcohpljgmaiaa.PR.fFew a0_0 a0_1 a0_2 a0_3 l0_4
theorem hopmeshref46_Few.calls (a0_0 : Int) (a0_1 : Int) (a0_2 : Int) (a0_3 : Int) (A0_4 : Option Addr) (c0_4 : Nat) (l0_4 : List ByteArray) (r : Bool) (w : World) (hr0_4 : Kd.C Kd.string w A0_4 l0_4.length l0_4) (hc0_4 : l0_4.length ≤ c0_4) (h : hopmeshref46_Few.f a0_0 a0_1 a0_2 a0_3 l0_4 = some r) :
    Calls Try.prog 15 #[.agg #[.int .i64 a0_0, .int .i64 a0_1, .int .i64 a0_2, .int .i64 a0_3, .slice A0_4 l0_4.length c0_4]] w fun e w' => e = .returned (.bool r) ∧ Below w.heap.size w w' := Go.Proofs.Ytnfcohpljgmaiaa.R.hopmeshref46_Few.calls 72 a0_0 a0_1 a0_2 a0_3 A0_4 c0_4 l0_4 r w hr0_4 hc0_4 (Go.Proofs.Ytnfcohpljgmaiaa.PR.uFew h)

/-! ### image_Verify: function 26 -/
def image_Verify.f (a0_0 : Int) (a0_1 : Int) (a0_2 : Int) (a0_3 : Int) (l0_4 : List ByteArray) (a1 : Int) (a2 : ByteArray) : Option (Int) := Go.Proofs.Ytnfcohpljgmaiaa.A.image_Verify.f a0_0 a0_1 a0_2 a0_3 l0_4 a1 a2
theorem image_Verify.calls (a0_0 : Int) (a0_1 : Int) (a0_2 : Int) (a0_3 : Int) (A0_4 : Option Addr) (c0_4 : Nat) (l0_4 : List ByteArray) (a1 : Int) (a2 : ByteArray) (r : Int) (w : World) (hr0_4 : Kd.C Kd.string w A0_4 l0_4.length l0_4) (hc0_4 : l0_4.length ≤ c0_4) (h : image_Verify.f a0_0 a0_1 a0_2 a0_3 l0_4 a1 a2 = some r) :
    Calls Try.prog 26 #[.agg #[.int .i64 a0_0, .int .i64 a0_1, .int .i64 a0_2, .int .i64 a0_3, .slice A0_4 l0_4.length c0_4], .int .i64 a1, .string a2] w fun e w' => e = .returned (.int .i64 r) ∧ Below w.heap.size w w' := Go.Proofs.Ytnfcohpljgmaiaa.A.image_Verify.calls a0_0 a0_1 a0_2 a0_3 A0_4 c0_4 l0_4 a1 a2 r w hr0_4 hc0_4 h

/-! ### hopmeshref46_Verify: function 27 -/
def hopmeshref46_Verify.f (a0_0 : Int) (a0_1 : Int) (a0_2 : Int) (a0_3 : Int) (l0_4 : List ByteArray) (a1 : Int) (a2 : ByteArray) : Option (Int) := Go.Proofs.Ytnfcohpljgmaiaa.A.image_Verify.f a0_0 a0_1 a0_2 a0_3 l0_4 a1 a2
theorem hopmeshref46_Verify.calls (a0_0 : Int) (a0_1 : Int) (a0_2 : Int) (a0_3 : Int) (A0_4 : Option Addr) (c0_4 : Nat) (l0_4 : List ByteArray) (a1 : Int) (a2 : ByteArray) (r : Int) (w : World) (hr0_4 : Kd.C Kd.string w A0_4 l0_4.length l0_4) (hc0_4 : l0_4.length ≤ c0_4) (h : hopmeshref46_Verify.f a0_0 a0_1 a0_2 a0_3 l0_4 a1 a2 = some r) :
    Calls Try.prog 27 #[.agg #[.int .i64 a0_0, .int .i64 a0_1, .int .i64 a0_2, .int .i64 a0_3, .slice A0_4 l0_4.length c0_4], .int .i64 a1, .string a2] w fun e w' => e = .returned (.int .i64 r) ∧ Below w.heap.size w w' := Go.Proofs.Ytnfcohpljgmaiaa.R.hopmeshref46_Verify.calls 71 a0_0 a0_1 a0_2 a0_3 A0_4 c0_4 l0_4 a1 a2 r w hr0_4 hc0_4 (Go.Proofs.Ytnfcohpljgmaiaa.PR.uVerify h)

/-! ### image_Intact: function 28 -/
def image_Intact.f (a0_0 : Int) (a0_1 : Int) (a0_2 : Int) (a0_3 : Int) (l0_4 : List ByteArray) (a1 : ByteArray) : Option (Int) := fIntact a0_0 a0_1 a0_2 a0_3 l0_4 a1
theorem image_Intact.calls (a0_0 : Int) (a0_1 : Int) (a0_2 : Int) (a0_3 : Int) (A0_4 : Option Addr) (c0_4 : Nat) (l0_4 : List ByteArray) (a1 : ByteArray) (r : Int) (w : World) (hr0_4 : Kd.C Kd.string w A0_4 l0_4.length l0_4) (_hc0_4 : l0_4.length ≤ c0_4) (h : image_Intact.f a0_0 a0_1 a0_2 a0_3 l0_4 a1 = some r) :
    Calls Try.prog 28 #[.agg #[.int .i64 a0_0, .int .i64 a0_1, .int .i64 a0_2, .int .i64 a0_3, .slice A0_4 l0_4.length c0_4], .string a1] w fun e w' => e = .returned (.int .i64 r) ∧ Below w.heap.size w w' := cIntact a0_0 a0_1 a0_2 a0_3 A0_4 c0_4 l0_4 a1 r w hr0_4 h

/-! ### hopmeshref46_Intact: function 29 -/
def hopmeshref46_Intact.f (a0_0 : Int) (a0_1 : Int) (a0_2 : Int) (a0_3 : Int) (l0_4 : List ByteArray) (a1 : ByteArray) : Option (Int) := Go.Proofs.Ytnfcohpljgmaiaa.fIntact a0_0 a0_1 a0_2 a0_3 l0_4 a1
theorem hopmeshref46_Intact.calls (a0_0 : Int) (a0_1 : Int) (a0_2 : Int) (a0_3 : Int) (A0_4 : Option Addr) (c0_4 : Nat) (l0_4 : List ByteArray) (a1 : ByteArray) (r : Int) (w : World) (hr0_4 : Kd.C Kd.string w A0_4 l0_4.length l0_4) (hc0_4 : l0_4.length ≤ c0_4) (h : hopmeshref46_Intact.f a0_0 a0_1 a0_2 a0_3 l0_4 a1 = some r) :
    Calls Try.prog 29 #[.agg #[.int .i64 a0_0, .int .i64 a0_1, .int .i64 a0_2, .int .i64 a0_3, .slice A0_4 l0_4.length c0_4], .string a1] w fun e w' => e = .returned (.int .i64 r) ∧ Below w.heap.size w w' := Go.Proofs.Ytnfcohpljgmaiaa.R.hopmeshref46_Intact.calls 200 a0_0 a0_1 a0_2 a0_3 A0_4 c0_4 l0_4 a1 r w hr0_4 hc0_4 (Go.Proofs.Ytnfcohpljgmaiaa.PR.uIntact h)

end Go.Proofs.Ytnfcohpljgmaiaa.QIV
