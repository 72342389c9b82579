/- ImageMakes: Make is the reference's, at each input up to 65538 bytes. -/
import Derived.Test.YtnfcohpljgmaiaaImgP
import Derived.Test.YtnfcohpljgmaiaaQx4
namespace Go.Proofs.Ytnfcohpljgmaiaa.Pure
open Go.RowKit Go.Proofs.Ytnfcohpljgmaiaa.Q Go.Proofs.YtnfcohpljgmaiaaW.PrintWords Go.Proofs.YtnfcohpljgmaiaaW.PrintLast

theorem fMake_some (v : Int) (d : ByteArray) (s kk : Int) : ∃ r1 r2 r3 r4 r5 r6, fMake v d s kk = some (r1, r2, r3, r4, r5, r6) ∧ r5.length ≤ 64 := by
  unfold fMake
  by_cases h1 : okSizes v s kk = true
  · rw [if_pos h1]
    by_cases h2 : d.size = 0
    · rw [if_pos h2]
      exact ⟨_, _, _, _, _, _, rfl, by simp⟩
    · rw [if_neg h2]
      by_cases h3 : (d.size : Int) > 65536 ∨ cnt d.size s > 64
      · rw [if_pos h3]
        exact ⟨_, _, _, _, _, _, rfl, by simp⟩
      · rw [if_neg h3]
        exact ⟨_, _, _, _, _, _, rfl, by rw [digs_len, List.length_range]; omega⟩
  · rw [if_neg h1]
    exact ⟨_, _, _, _, _, _, rfl, by simp⟩
theorem same_k (a b c d : Int) (l : List ByteArray) (hl : l.length ≤ 64) : hopmeshref46_Same.f 70 a b c d l a b c d l = some true := by
  have h : ∀ m, hopmeshref46_Same.f (l.length + 2 + m) a b c d l a b c d l = some true := by
    intro m
    induction m with
    | zero => exact same_self a b c d l (by omega)
    | succ m ih => exact hopmeshref46_Same.mono _ _ _ _ _ _ _ _ _ _ _ _ ih
  have := h (68 - l.length)
  rw [show l.length + 2 + (68 - l.length) = 70 by omega] at this
  exact this

theorem ImageMakes : hopmeshlaw46_ImageMakes.Pure := by
  intro a0 a1 a2 a3 _ _ _ _
  refine ⟨71, ?_⟩
  have hyes : hopmeshlaw46_ImageMakes.j0 71 a0 a1 a2 a3 true = some true := rfl
  have hno : (a1.size : Int) ≤ 65538 → hopmeshlaw46_ImageMakes.j0 71 a0 a1 a2 a3 false = some true := by
    intro hd
    obtain ⟨r1, r2, r3, r4, r5, r6, hm, hl⟩ := fMake_some a0 a1 a2 a3
    rw [hopmeshlaw46_ImageMakes.j0, if_neg (by simp)]
    unfold image_Make.f
    rw [refMake _ _ _ _ hd, hm]
    simp only [Option.bind_some]
    rw [same_k _ _ _ _ _ hl]
    simp
  unfold hopmeshlaw46_ImageMakes.f
  show (some true).bind _ = _
  rw [Option.bind_some, if_pos rfl]
  have hj : ∀ b : Bool, b = decide ((a1.size : Int) > 65538) → hopmeshlaw46_ImageMakes.j0 71 a0 a1 a2 a3 b = some true := by
    rintro b rfl
    by_cases h : (a1.size : Int) > 65538
    · rw [decide_eq_true h]
      exact hyes
    · rw [decide_eq_false h]
      exact hno (by omega)
  by_cases h1 : (a1.size : Int) > 1000
  · rw [if_pos h1]
    by_cases h2 : (a1.size : Int) < 65536
    · rw [if_pos h2]
      exact hyes
    · rw [if_neg h2]
      exact hj _ rfl
  · rw [if_neg h1]
    exact hj _ rfl

end Go.Proofs.Ytnfcohpljgmaiaa.Pure
