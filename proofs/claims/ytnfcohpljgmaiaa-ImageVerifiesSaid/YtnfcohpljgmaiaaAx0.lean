/- strings.Clone, strings.Join. -/
import Derived.Test.YtnfcohpljgmaiaaImgC
import Derived.Test.YtnfcohpljgmaiaaShelf
import Derived.Test.YtnfcohpljgmaiaaProg
import Derived.Below
import Derived.Deep.Draws
import Derived.Deep.AppendLies
import Derived.Maps.AppendAt
import Derived.OwnWalk
import Derived.Laws.BytesArg
import Derived.Laws.MakeOwn
import Derived.Laws.OwnMore
import Derived.Deep.OwnRows
import Derived.Tactics
import Derived.Lib.ConvBytes
import Derived.Laws.Slices
import Derived.WalkKit
import Derived.KernelRfl
import Derived.RowKit3
import Derived.Deep.LoopGhost
import Derived.Deep.QuietTactic
import Derived.BigQuiet
import Derived.WideLaws
import Derived.Deep.DeepCutAuto
import Derived.Deep.CutBlock
import Derived.Deep.RegionHeld3
import Derived.Laws.Rows
import Derived.Lib.AppendStr
import Derived.ArgAppend
import Derived.Laws.IdiomCopy
import Derived.OrdersHeld
import Derived.Laws.BitsLemmas
import Derived.RowKit
import Derived.Test.YtnfcohpljgmaiaaWWords
import Derived.Test.YtnfcohpljgmaiaaWLast
import Derived.Test.YtnfcohpljgmaiaaWTab
import Derived.Test.YtnfcohpljgmaiaaWApart
import Derived.Test.YtnfcohpljgmaiaaWKept
import Derived.Test.YtnfcohpljgmaiaaWN
import Derived.Laws.StructEq
import Derived.Test.YtnfcohpljgmaiaaWGuard
import Derived.Test.YtnfcohpljgmaiaaWMore
section
namespace Go.Proofs.Ytnfcohpljgmaiaa
open Go.RowKit Go.Proofs.YtnfcohpljgmaiaaW.PrintLast Go.Proofs.YtnfcohpljgmaiaaW.PrintWords

def joinB (l : List ByteArray) (sep : ByteArray) : ByteArray := ⟨(Lib.join (l.map (·.data.toList)) sep.data.toList).toArray⟩
def fJoin (l : List ByteArray) (sep : ByteArray) : Option ByteArray := if l.length ≤ 140737488355328 ∧ (joinB l sep).size ≤ 140737488355328 then some (joinB l sep) else none
theorem cJoin (A0 : Option Addr) (c0 : Nat) (l0 : List ByteArray) (sep : ByteArray) (r : ByteArray) (w : World) (hr0 : Kd.C Kd.string w A0 l0.length l0) (hc0 : l0.length ≤ c0) (h : fJoin l0 sep = some r) :
    Calls Try.prog 58 #[.slice A0 l0.length c0, .string sep] w fun e w' => e = .returned (.string r) ∧ Below w.heap.size w w' := by
  unfold fJoin at h
  split at h
  · rename_i hs
    obtain rfl := Option.some.inj h
    have hst := strs_of hr0
    cases l0 with
    | nil =>
      refine (Try.strings_Join_none A0 c0 sep w).mono ?_
      rintro e w' ⟨rfl, rfl⟩
      exact ⟨rfl, Below.refl _ _⟩
    | cons x xs =>
      obtain ⟨g, off, rfl, hc⟩ := hst 0 (by simp)
      refine Try.strings_Join g off c0 (x :: xs) sep w (fun j y hj => ?_) (cell_lt hc) hs.1 hc0 (by have := hs.2; simpa [joinB, ByteArray.size] using this)
      obtain ⟨g', off', e, hc'⟩ := hst j (List.getElem?_eq_some_iff.1 hj).1
      cases e
      rw [hc']
      unfold strAt
      rw [List.getD_eq_getElem?_getD, hj]
      rfl
  · cases h

end Go.Proofs.Ytnfcohpljgmaiaa
end
section
namespace Go.Proofs.Ytnfcohpljgmaiaa
open Go.RowKit Go.Proofs.YtnfcohpljgmaiaaW.PrintWords Go.Proofs.Ytnfcohpljgmaiaa.B

def fCheck (V S P K : Int) (l : List ByteArray) : Option Int := some (if okMan V S P K l = true then 0 else 1)
theorem cCheck (V S P K : Int) (A : Option Addr) (c : Nat) (l : List ByteArray) (r : Int) (w : World) (hr : Kd.C Kd.string w A l.length l) (h : fCheck V S P K l = some r) :
    Calls Try.prog 20 #[.agg #[.int .i64 V, .int .i64 S, .int .i64 P, .int .i64 K, .slice A l.length c]] w fun e w' => e = .returned (.int .i64 r) ∧ Below w.heap.size w w' := by
  obtain rfl := Option.some.inj h
  exact check_man V S P K A c l w (strs_of hr) hr.2.1
end Go.Proofs.Ytnfcohpljgmaiaa
end
section
namespace Go.Proofs.Ytnfcohpljgmaiaa.A
open Go.RowKit Go.Proofs.YtnfcohpljgmaiaaW.PrintWords Go.Proofs.YtnfcohpljgmaiaaW.PrintLast Go.Proofs.YtnfcohpljgmaiaaW.PrintMore
attribute [local go_sem] max2_int min2_int max_two min_two max_three min_three max_four min_four   -- for this text's walks alone
set_option linter.unusedVariables false
set_option linter.unusedSimpArgs false



def errW : Option Int → Value
  | none => .nilIface
  | some c => .iface 0 (.int .i64 c)
theorem errW_none : errW none = .nilIface := rfl
theorem errW_some (c : Int) : errW (some c) = .iface 0 (.int .i64 c) := rfl

-- the values' own types
/-! #### struct type 25 -/
structure S25 where
  f0 : Int
  f1 : Int
  f2 : Int
  f3 : Int
  f4 : (List ByteArray)
end Go.Proofs.Ytnfcohpljgmaiaa.A
end
