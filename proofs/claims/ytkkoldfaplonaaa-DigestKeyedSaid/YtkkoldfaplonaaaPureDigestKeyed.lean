/- For each key of at most 100 bytes and each string of at most 1000 bytes the program's Keyed and the reference's Keyed give the same digest or the same error, and the chapter's example holds. No condition. -/
import Derived.Test.YtkkoldfaplonaaaQx1
namespace Go.Proofs.Ytkkoldfaplonaaa.Pure
open Go.RowKit Go.Proofs.Ytkkoldfaplonaaa.Q Go.Proofs.YtkkoldfaplonaaaW.PrintWords Go.Proofs.YtkkoldfaplonaaaW.PrintLast

theorem keyed_join (x0 x1 : ByteArray) (b : Bool) (h : x1.size ≤ 140737488351232) : hopmeshlaw01_DigestKeyed.j0 1 x0 x1 b = some true := by
  simp only [hopmeshlaw01_DigestKeyed.j0]
  split
  · rfl
  · unfold digest_Keyed.f hopmeshref01_Keyed.f fKeyed
    rw [if_pos h]
    split <;> simp

theorem DigestKeyed : hopmeshlaw01_DigestKeyed.Pure := by
  intro a0 a1 h0 h1
  refine ⟨1, ?_⟩
  unfold hopmeshlaw01_DigestKeyed.f hopmeshlaw01_awake.f
  simp only [Option.bind_some, if_true]
  split <;> exact keyed_join _ _ _ h1

end Go.Proofs.Ytkkoldfaplonaaa.Pure
