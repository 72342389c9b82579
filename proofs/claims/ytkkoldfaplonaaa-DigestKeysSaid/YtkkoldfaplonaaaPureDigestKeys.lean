/- For keys of at most 32 bytes and strings of at most 300 bytes: equal keys give equal digests, with the empty key Keyed is Sum, and where two keys give one digest the reference gives one digest for both. No condition. -/
import Derived.Test.YtkkoldfaplonaaaQx3
namespace Go.Proofs.Ytkkoldfaplonaaa.Pure
open Go.RowKit Go.Proofs.Ytkkoldfaplonaaa.Q Go.Proofs.YtkkoldfaplonaaaW.PrintWords Go.Proofs.YtkkoldfaplonaaaW.PrintLast

theorem keys_j1 (k : Nat) (x0 x1 x2 : ByteArray) (h0 : x0.size ≤ 32) (h1 : x1.size ≤ 32) (h2 : x2.size ≤ 140737488351232) :
    hopmeshlaw01_DigestKeys.j1 (k + 1) x0 x1 x2 (S8 (keyed x0.data.toList x2.data.toList)) (S8 (keyed x1.data.toList x2.data.toList)) false = some true := by
  simp only [hopmeshlaw01_DigestKeys.j1]
  rw [if_neg (by decide)]
  split
  · rename_i h
    rw [Lib.toList_data, Lib.toList_data] at h
    rw [h]
    simp
  · unfold hopmeshref01_Keyed.f fKeyed
    rw [if_pos h0, if_pos h1]
    simp only [if_pos h2, Option.bind_some]
    by_cases h : (S8 (keyed x0.data.toList x2.data.toList)).toList = (S8 (keyed x1.data.toList x2.data.toList)).toList
    · rw [if_pos h, h]
      simp
    · rw [if_neg h]

theorem keys_j0 (x0 x1 x2 : ByteArray) (b : Bool) (h0 : b = false → x0.size ≤ 32 ∧ x1.size ≤ 32) (h2 : x2.size ≤ 140737488351232) : hopmeshlaw01_DigestKeys.j0 2 x0 x1 x2 b = some true := by
  simp only [hopmeshlaw01_DigestKeys.j0]
  cases b with
  | true => rfl
  | false =>
    obtain ⟨k0, k1⟩ := h0 rfl
    rw [if_neg (by decide)]
    unfold digest_Keyed.f digest_Sum.f fKeyed fSum
    rw [if_pos h2, if_pos h2, if_pos h2, if_pos h2, if_pos k0, if_pos k1, if_pos (by decide)]
    simp only [Option.bind_some, if_true]
    rw [if_pos (by rw [S8_size, length_keyed]; rfl)]
    have e : ((S8 (keyed (⟨#[]⟩ : ByteArray).data.toList x2.data.toList)).toList != (S8 (dsum x2.data.toList)).toList) = false := by
      show ((S8 (dsum x2.data.toList)).toList != (S8 (dsum x2.data.toList)).toList) = false
      simp
    rw [e]
    exact keys_j1 0 x0 x1 x2 k0 k1 h2

theorem DigestKeys : hopmeshlaw01_DigestKeys.Pure := by
  intro a0 a1 a2 h0 h1 h2
  refine ⟨2, ?_⟩
  unfold hopmeshlaw01_DigestKeys.f hopmeshlaw01_awake.f
  simp only [Option.bind_some, if_true]
  split
  · exact keys_j0 _ _ _ _ (fun h => by cases h) h2
  · split
    · exact keys_j0 _ _ _ _ (fun h => by cases h) h2
    · exact keys_j0 _ _ _ _ (fun _ => ⟨by omega, by omega⟩) h2

end Go.Proofs.Ytkkoldfaplonaaa.Pure
