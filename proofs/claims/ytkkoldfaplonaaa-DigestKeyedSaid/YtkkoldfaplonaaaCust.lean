/- The digest's contracts, in the form that the printed texts call. -/
import Derived.Test.YtkkoldfaplonaaaAwake
namespace Go.Proofs.Ytkkoldfaplonaaa
open Go.RowKit

def fSum (a0 : ByteArray) : Option ByteArray := if a0.size ≤ 140737488351232 then some (S8 (dsum a0.data.toList)) else none
def fKeyed (a0 a1 : ByteArray) : Option (ByteArray × Int) := if a1.size ≤ 140737488351232 then (if a0.size ≤ 32 then some (S8 (keyed a0.data.toList a1.data.toList), 0) else some (⟨#[]⟩, 1)) else none
def fHex (a0 : ByteArray) : ByteArray × Int := if a0.size = 32 then (S8 (hexOf a0.data.toList), 0) else (⟨#[]⟩, 1)
def fParse (a0 : ByteArray) : ByteArray × Int := (S8 (parsed a0.data.toList).1, (parsed a0.data.toList).2)

theorem cSum (a0 : ByteArray) (r : ByteArray) (w : World) (h : fSum a0 = some r) :
    Calls Try.prog 12 #[.string a0] w fun e w' => e = .returned (.string r) ∧ Below w.heap.size w w' := by
  unfold fSum at h
  split at h
  · rename_i hs
    obtain rfl := Option.some.inj h
    exact dsum_any a0 w hs
  · cases h
theorem cSumR (a0 : ByteArray) (r : ByteArray) (w : World) (h : fSum a0 = some r) :
    Calls Try.prog 13 #[.string a0] w fun e w' => e = .returned (.string r) ∧ Below w.heap.size w w' := by
  unfold fSum at h
  split at h
  · rename_i hs
    obtain rfl := Option.some.inj h
    exact dsumr_any a0 w (by omega)
  · cases h
theorem cKeyed (a0 a1 : ByteArray) (r1 : ByteArray) (r2 : Int) (w : World) (h : fKeyed a0 a1 = some (r1, r2)) :
    Calls Try.prog 14 #[.string a0, .string a1] w fun e w' => e = .returned (.tuple #[.string r1, .int .i64 r2]) ∧ Below w.heap.size w w' := by
  unfold fKeyed at h
  split at h
  · rename_i hs
    split at h
    · rename_i hk
      injection h with h
      injection h with h1 h2
      subst h1 h2
      exact keyed_any a0 a1 w hk hs
    · rename_i hk
      injection h with h
      injection h with h1 h2
      subst h1 h2
      exact keyed_bad a0 a1 w (by omega)
  · cases h
theorem cKeyedR (a0 a1 : ByteArray) (r1 : ByteArray) (r2 : Int) (w : World) (h : fKeyed a0 a1 = some (r1, r2)) :
    Calls Try.prog 15 #[.string a0, .string a1] w fun e w' => e = .returned (.tuple #[.string r1, .int .i64 r2]) ∧ Below w.heap.size w w' := by
  unfold fKeyed at h
  split at h
  · rename_i hs
    split at h
    · rename_i hk
      injection h with h
      injection h with h1 h2
      subst h1 h2
      by_cases h0 : a0.size = 0
      · exact keyedr_empty a0 a1 w h0 (by omega)
      · exact keyedr_full a0 a1 w h0 hk hs
    · rename_i hk
      injection h with h
      injection h with h1 h2
      subst h1 h2
      exact keyedr_bad a0 a1 w (by omega)
  · cases h
theorem cHex (a0 : ByteArray) (r1 : ByteArray) (r2 : Int) (w : World) (h : some (fHex a0) = some (r1, r2)) :
    Calls Try.prog 23 #[.string a0] w fun e w' => e = .returned (.tuple #[.string r1, .int .i64 r2]) ∧ Below w.heap.size w w' := by
  unfold fHex at h
  split at h
  · rename_i hs
    injection h with h
    injection h with h1 h2
    subst h1 h2
    exact hex_any a0 w hs
  · rename_i hs
    injection h with h
    injection h with h1 h2
    subst h1 h2
    exact hex_bad a0 w hs
theorem cParse (a0 : ByteArray) (r1 : ByteArray) (r2 : Int) (w : World) (h : some (fParse a0) = some (r1, r2)) :
    Calls Try.prog 24 #[.string a0] w fun e w' => e = .returned (.tuple #[.string r1, .int .i64 r2]) ∧ Below w.heap.size w w' := by
  unfold fParse at h
  injection h with h
  injection h with h1 h2
  subst h1 h2
  exact parse_any a0 w
theorem cAwake (r : Bool) (w : World) (h : some true = some r) :
    Calls Try.prog 11 #[] w fun e w' => e = .returned (.bool r) ∧ Below w.heap.size w w' := by
  obtain rfl := Option.some.inj h
  exact awake_any w

end Go.Proofs.Ytkkoldfaplonaaa
