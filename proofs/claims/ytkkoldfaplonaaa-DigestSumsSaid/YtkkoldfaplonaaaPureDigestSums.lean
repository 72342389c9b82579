/- For each string of at most 1000 bytes the program's Sum and the reference's Sum give the same digest, and the chapter's example holds. No condition. -/
import Derived.Test.YtkkoldfaplonaaaQx1
namespace Go.Proofs.Ytkkoldfaplonaaa.Pure
open Go.RowKit Go.Proofs.Ytkkoldfaplonaaa.Q Go.Proofs.YtkkoldfaplonaaaW.PrintWords Go.Proofs.YtkkoldfaplonaaaW.PrintLast

theorem DigestSums : hopmeshlaw01_DigestSums.Pure := by
  intro a0 h
  unfold hopmeshlaw01_DigestSums.f hopmeshlaw01_awake.f digest_Sum.f hopmeshref01_Sum.f fSum
  simp only [Option.bind_some, if_true]
  rw [if_pos h]
  simp only [Option.bind_some]
  split
  · rfl
  · simp

end Go.Proofs.Ytkkoldfaplonaaa.Pure
