-- Printed by a program of this session's (wip/pr.py) with contracts of its own; not the kit's print.
import Derived.Test.YtnfcohpljgmaiaaQCx0
namespace Go.Proofs.Ytnfcohpljgmaiaa.QC
open Go.RowKit Go.Proofs.YtnfcohpljgmaiaaW.PrintWords Go.Proofs.YtnfcohpljgmaiaaW.PrintLast Go.Proofs.YtnfcohpljgmaiaaW.PrintMore
attribute [local go_sem] max2_int min2_int max_two min_two max_three min_three max_four min_four   -- for this text's walks alone
set_option linter.unusedVariables false
set_option linter.unusedSimpArgs false

/-! ### hopmeshlaw46_awake: function 11 -/
def hopmeshlaw46_awake.f : Option (Bool) := some true
theorem hopmeshlaw46_awake.calls (r : Bool) (w : World) (h : hopmeshlaw46_awake.f = some r) :
    Calls Try.prog 11 #[] w fun e w' => e = .returned (.bool r) ∧ Below w.heap.size w w' := cAwake r w h

/-! ### hopmeshref46_Few: function 15 -/
def hopmeshref46_Few.f (a0_0 : Int) (a0_1 : Int) (a0_2 : Int) (a0_3 : Int) (l0_4 : List ByteArray) : Option (Bool) := Go.Proofs.Ytnfcohpljgmaiaa.PR.fFew a0_0 a0_1 a0_2 a0_3 l0_4
theorem hopmeshref46_Few.calls (a0_0 : Int) (a0_1 : Int) (a0_2 : Int) (a0_3 : Int) (A0_4 : Option Addr) (c0_4 : Nat) (l0_4 : List ByteArray) (r : Bool) (w : World) (hr0_4 : Kd.C Kd.string w A0_4 l0_4.length l0_4) (hc0_4 : l0_4.length ≤ c0_4) (h : hopmeshref46_Few.f a0_0 a0_1 a0_2 a0_3 l0_4 = some r) :
    Calls Try.prog 15 #[.agg #[.int .i64 a0_0, .int .i64 a0_1, .int .i64 a0_2, .int .i64 a0_3, .slice A0_4 l0_4.length c0_4]] w fun e w' => e = .returned (.bool r) ∧ Below w.heap.size w w' := Go.Proofs.Ytnfcohpljgmaiaa.R.hopmeshref46_Few.calls 72 a0_0 a0_1 a0_2 a0_3 A0_4 c0_4 l0_4 r w hr0_4 hc0_4 (Go.Proofs.Ytnfcohpljgmaiaa.PR.uFew h)

/-! ### image_Check: function 20 -/
def image_Check.f (a0_0 : Int) (a0_1 : Int) (a0_2 : Int) (a0_3 : Int) (l0_4 : List ByteArray) : Option (Int) := fCheck a0_0 a0_1 a0_2 a0_3 l0_4
theorem image_Check.calls (a0_0 : Int) (a0_1 : Int) (a0_2 : Int) (a0_3 : Int) (A0_4 : Option Addr) (c0_4 : Nat) (l0_4 : List ByteArray) (r : Int) (w : World) (hr0_4 : Kd.C Kd.string w A0_4 l0_4.length l0_4) (_hc0_4 : l0_4.length ≤ c0_4) (h : image_Check.f a0_0 a0_1 a0_2 a0_3 l0_4 = some r) :
    Calls Try.prog 20 #[.agg #[.int .i64 a0_0, .int .i64 a0_1, .int .i64 a0_2, .int .i64 a0_3, .slice A0_4 l0_4.length c0_4]] w fun e w' => e = .returned (.int .i64 r) ∧ Below w.heap.size w w' := cCheck a0_0 a0_1 a0_2 a0_3 A0_4 c0_4 l0_4 r w hr0_4 h

/-! ### image_Encode: function 21 -/
def image_Encode.f (a0_0 : Int) (a0_1 : Int) (a0_2 : Int) (a0_3 : Int) (l0_4 : List ByteArray) : Option (ByteArray × Int) := Go.Proofs.Ytnfcohpljgmaiaa.A.image_Encode.f a0_0 a0_1 a0_2 a0_3 l0_4
theorem image_Encode.calls (a0_0 : Int) (a0_1 : Int) (a0_2 : Int) (a0_3 : Int) (A0_4 : Option Addr) (c0_4 : Nat) (l0_4 : List ByteArray) (r1 : ByteArray) (r2 : Int) (w : World) (hr0_4 : Kd.C Kd.string w A0_4 l0_4.length l0_4) (hc0_4 : l0_4.length ≤ c0_4) (h : image_Encode.f a0_0 a0_1 a0_2 a0_3 l0_4 = some (r1, r2)) :
    Calls Try.prog 21 #[.agg #[.int .i64 a0_0, .int .i64 a0_1, .int .i64 a0_2, .int .i64 a0_3, .slice A0_4 l0_4.length c0_4]] w fun e w' => e = .returned (.tuple #[.string r1, .int .i64 r2]) ∧ Below w.heap.size w w' := Go.Proofs.Ytnfcohpljgmaiaa.A.image_Encode.calls a0_0 a0_1 a0_2 a0_3 A0_4 c0_4 l0_4 r1 r2 w hr0_4 hc0_4 h

/-! ### hopmeshref46_Encode: function 22 -/
def hopmeshref46_Encode.f (a0_0 : Int) (a0_1 : Int) (a0_2 : Int) (a0_3 : Int) (l0_4 : List ByteArray) : Option (ByteArray × Int) := Go.Proofs.Ytnfcohpljgmaiaa.A.image_Encode.f a0_0 a0_1 a0_2 a0_3 l0_4
theorem hopmeshref46_Encode.calls (a0_0 : Int) (a0_1 : Int) (a0_2 : Int) (a0_3 : Int) (A0_4 : Option Addr) (c0_4 : Nat) (l0_4 : List ByteArray) (r1 : ByteArray) (r2 : Int) (w : World) (hr0_4 : Kd.C Kd.string w A0_4 l0_4.length l0_4) (hc0_4 : l0_4.length ≤ c0_4) (h : hopmeshref46_Encode.f a0_0 a0_1 a0_2 a0_3 l0_4 = some (r1, r2)) :
    Calls Try.prog 22 #[.agg #[.int .i64 a0_0, .int .i64 a0_1, .int .i64 a0_2, .int .i64 a0_3, .slice A0_4 l0_4.length c0_4]] w fun e w' => e = .returned (.tuple #[.string r1, .int .i64 r2]) ∧ Below w.heap.size w w' := Go.Proofs.Ytnfcohpljgmaiaa.R.hopmeshref46_Encode.calls 80 a0_0 a0_1 a0_2 a0_3 A0_4 c0_4 l0_4 r1 r2 w hr0_4 hc0_4 (Go.Proofs.Ytnfcohpljgmaiaa.PR.uEncode h)

/-! ### image_ID: function 23 -/
def image_ID.f (a0_0 : Int) (a0_1 : Int) (a0_2 : Int) (a0_3 : Int) (l0_4 : List ByteArray) : Option (ByteArray × Int) := Go.Proofs.Ytnfcohpljgmaiaa.A.image_ID.f a0_0 a0_1 a0_2 a0_3 l0_4
theorem image_ID.calls (a0_0 : Int) (a0_1 : Int) (a0_2 : Int) (a0_3 : Int) (A0_4 : Option Addr) (c0_4 : Nat) (l0_4 : List ByteArray) (r1 : ByteArray) (r2 : Int) (w : World) (hr0_4 : Kd.C Kd.string w A0_4 l0_4.length l0_4) (hc0_4 : l0_4.length ≤ c0_4) (h : image_ID.f a0_0 a0_1 a0_2 a0_3 l0_4 = some (r1, r2)) :
    Calls Try.prog 23 #[.agg #[.int .i64 a0_0, .int .i64 a0_1, .int .i64 a0_2, .int .i64 a0_3, .slice A0_4 l0_4.length c0_4]] w fun e w' => e = .returned (.tuple #[.string r1, .int .i64 r2]) ∧ Below w.heap.size w w' := Go.Proofs.Ytnfcohpljgmaiaa.A.image_ID.calls a0_0 a0_1 a0_2 a0_3 A0_4 c0_4 l0_4 r1 r2 w hr0_4 hc0_4 h

/-! ### hopmeshref46_ID: function 24 -/
def hopmeshref46_ID.f (a0_0 : Int) (a0_1 : Int) (a0_2 : Int) (a0_3 : Int) (l0_4 : List ByteArray) : Option (ByteArray × Int) := Go.Proofs.Ytnfcohpljgmaiaa.A.image_ID.f a0_0 a0_1 a0_2 a0_3 l0_4
theorem hopmeshref46_ID.calls (a0_0 : Int) (a0_1 : Int) (a0_2 : Int) (a0_3 : Int) (A0_4 : Option Addr) (c0_4 : Nat) (l0_4 : List ByteArray) (r1 : ByteArray) (r2 : Int) (w : World) (hr0_4 : Kd.C Kd.string w A0_4 l0_4.length l0_4) (hc0_4 : l0_4.length ≤ c0_4) (h : hopmeshref46_ID.f a0_0 a0_1 a0_2 a0_3 l0_4 = some (r1, r2)) :
    Calls Try.prog 24 #[.agg #[.int .i64 a0_0, .int .i64 a0_1, .int .i64 a0_2, .int .i64 a0_3, .slice A0_4 l0_4.length c0_4]] w fun e w' => e = .returned (.tuple #[.string r1, .int .i64 r2]) ∧ Below w.heap.size w w' := Go.Proofs.Ytnfcohpljgmaiaa.R.hopmeshref46_ID.calls 80 a0_0 a0_1 a0_2 a0_3 A0_4 c0_4 l0_4 r1 r2 w hr0_4 hc0_4 (Go.Proofs.Ytnfcohpljgmaiaa.PR.uID h)

/-! ### hopmeshref46_Check: function 25 -/
def hopmeshref46_Check.f (a0_0 : Int) (a0_1 : Int) (a0_2 : Int) (a0_3 : Int) (l0_4 : List ByteArray) : Option (Int) := Go.Proofs.Ytnfcohpljgmaiaa.fCheck a0_0 a0_1 a0_2 a0_3 l0_4
theorem hopmeshref46_Check.calls (a0_0 : Int) (a0_1 : Int) (a0_2 : Int) (a0_3 : Int) (A0_4 : Option Addr) (c0_4 : Nat) (l0_4 : List ByteArray) (r : Int) (w : World) (hr0_4 : Kd.C Kd.string w A0_4 l0_4.length l0_4) (hc0_4 : l0_4.length ≤ c0_4) (h : hopmeshref46_Check.f a0_0 a0_1 a0_2 a0_3 l0_4 = some r) :
    Calls Try.prog 25 #[.agg #[.int .i64 a0_0, .int .i64 a0_1, .int .i64 a0_2, .int .i64 a0_3, .slice A0_4 l0_4.length c0_4]] w fun e w' => e = .returned (.int .i64 r) ∧ Below w.heap.size w w' := Go.Proofs.Ytnfcohpljgmaiaa.R.hopmeshref46_Check.calls 70 a0_0 a0_1 a0_2 a0_3 A0_4 c0_4 l0_4 r w hr0_4 hc0_4 (Go.Proofs.Ytnfcohpljgmaiaa.PR.uCheck h)

end Go.Proofs.Ytnfcohpljgmaiaa.QC
