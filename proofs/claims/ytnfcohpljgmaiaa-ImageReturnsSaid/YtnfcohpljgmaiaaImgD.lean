/- strings.Clone, strings.Join. -/
import Derived.Test.YtnfcohpljgmaiaaImgC
import Derived.Test.YtnfcohpljgmaiaaShelf
namespace Go.Proofs.Ytnfcohpljgmaiaa
open Go.RowKit Go.Proofs.YtnfcohpljgmaiaaW.PrintLast Go.Proofs.YtnfcohpljgmaiaaW.PrintWords

theorem clone_any (s : ByteArray) (w : World) (hlim : s.size ≤ 281474976710656) : Calls Try.prog 50 #[.string s] w fun e w' => e = .returned (.string s) ∧ Below w.heap.size w w' := by
  go_enter Try.func50, Try.ntmps50
  go_wp2_with (go_at_call 60; refine (Try.stringslite_Clone s _ hlim).mono ?_; rintro e w1 ⟨rfl, hb⟩; have HB := Lib.hid hb; clear hb)
  go_ret
  exact ⟨rfl, HB.out⟩

def joinB (l : List ByteArray) (sep : ByteArray) : ByteArray := ⟨(Lib.join (l.map (·.data.toList)) sep.data.toList).toArray⟩
def fJoin (l : List ByteArray) (sep : ByteArray) : Option ByteArray := if l.length ≤ 140737488355328 ∧ (joinB l sep).size ≤ 140737488355328 then some (joinB l sep) else none
theorem cJoin (A0 : Option Addr) (c0 : Nat) (l0 : List ByteArray) (sep : ByteArray) (r : ByteArray) (w : World) (hr0 : Kd.C Kd.string w A0 l0.length l0) (hc0 : l0.length ≤ c0) (h : fJoin l0 sep = some r) :
    Calls Try.prog 58 #[.slice A0 l0.length c0, .string sep] w fun e w' => e = .returned (.string r) ∧ Below w.heap.size w w' := by
  unfold fJoin at h
  split at h
  · rename_i hs
    obtain rfl := Option.some.inj h
    have hst := strs_of hr0
    cases l0 with
    | nil =>
      refine (Try.strings_Join_none A0 c0 sep w).mono ?_
      rintro e w' ⟨rfl, rfl⟩
      exact ⟨rfl, Below.refl _ _⟩
    | cons x xs =>
      obtain ⟨g, off, rfl, hc⟩ := hst 0 (by simp)
      refine Try.strings_Join g off c0 (x :: xs) sep w (fun j y hj => ?_) (cell_lt hc) hs.1 hc0 (by have := hs.2; simpa [joinB, ByteArray.size] using this)
      obtain ⟨g', off', e, hc'⟩ := hst j (List.getElem?_eq_some_iff.1 hj).1
      cases e
      rw [hc']
      unfold strAt
      rw [List.getD_eq_getElem?_getD, hj]
      rfl
  · cases h

end Go.Proofs.Ytnfcohpljgmaiaa
