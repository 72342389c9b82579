/- Contracts of the digests and of image.number, in the form that the printed texts call. -/
import Derived.Test.YtnfcohpljgmaiaaDc
import Derived.Test.YtnfcohpljgmaiaaBld
import Derived.Test.YtnfcohpljgmaiaaWWords
namespace Go.Proofs.Ytnfcohpljgmaiaa
open Go.RowKit Go.Proofs.YtnfcohpljgmaiaaW.PrintWords

def fSum (a0 : ByteArray) : Option ByteArray := if a0.size ≤ 140737488351232 then some (S8 (dsum a0.data.toList)) else none
theorem cSum (a0 : ByteArray) (r : ByteArray) (w : World) (h : fSum a0 = some r) :
    Calls Try.prog 32 #[.string a0] w fun e w' => e = .returned (.string r) ∧ Below w.heap.size w w' := by
  unfold fSum at h
  split at h
  · rename_i hs
    obtain rfl := Option.some.inj h
    exact dsum_any a0 w hs
  · cases h
/-- The pairs' sizes are small, and all are whole numbers of the machine's. -/
def smallB (l : List Int) : Bool := decide (l.length ≤ 16) && (List.range (l.length / 2)).all (fun i => decide (0 ≤ l.getD (2 * i) 0) && decide (l.getD (2 * i) 0 ≤ 8)) && l.all fun x => (Lit.int .i64 x).wf
def fNumber (l : List Int) : Option ByteArray := if smallB l = true then some ⟨(numBytes l).toArray⟩ else none
theorem cNumber (A0 : Option Addr) (c0 : Nat) (l0 : List Int) (r : ByteArray) (w : World) (hr0 : Kd.C (Kd.int .i64) w A0 l0.length l0) (h : fNumber l0 = some r) :
    Calls Try.prog 56 #[.slice A0 l0.length c0] w fun e w' => e = .returned (.string r) ∧ Below w.heap.size w w' := by
  unfold fNumber at h
  split at h
  · rename_i hs
    obtain rfl := Option.some.inj h
    unfold smallB at hs
    simp only [Bool.and_eq_true, decide_eq_true_eq, List.all_eq_true, List.mem_range] at hs
    refine number_any A0 c0 l0 w ⟨hs.1.1, fun i hi => hs.1.2 i hi⟩ hs.2 (fun j hj => ?_)
    obtain ⟨ad, ha, hc⟩ := hr0.2.2 (by omega)
    obtain ⟨c, hcl, hk, hcell⟩ := hc j l0[j] (List.getElem?_eq_getElem hj)
    have hk' : c = [.int .i64 l0[j]] := hk
    subst hk'
    refine ⟨ad, ha, ?_⟩
    have h1 := hcell 0 _ rfl
    have e1 : j * (Kd.int .i64).sz + 0 = j := by
      show j * 1 + 0 = j
      omega
    rw [e1] at h1
    rw [h1, List.getD_eq_getElem?_getD, List.getElem?_eq_getElem hj]
    rfl
  · cases h

end Go.Proofs.Ytnfcohpljgmaiaa
