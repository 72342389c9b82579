/- ImageDecodes: Decode is the reference's, at each string up to 2200 bytes, and Encode undoes it. -/
import Derived.Test.YtnfcohpljgmaiaaQIDx0
import Derived.Test.YtnfcohpljgmaiaaQIDx1
import Derived.Test.YtnfcohpljgmaiaaDec
namespace Go.Proofs.Ytnfcohpljgmaiaa.Pure
open Go.RowKit Go.Proofs.Ytnfcohpljgmaiaa.QID Go.Proofs.YtnfcohpljgmaiaaW.PrintWords Go.Proofs.YtnfcohpljgmaiaaW.PrintLast

theorem ImageDecodes : hopmeshlaw46_ImageDecodes.Pure := by
  intro d _
  refine ⟨1, ?_⟩
  have hyes : hopmeshlaw46_ImageDecodes.j0 1 d true = some true := rfl
  unfold hopmeshlaw46_ImageDecodes.f
  show (some true).bind _ = _
  rw [Option.bind_some, if_pos rfl]
  by_cases hd : (d.size : Int) > 2200
  · rw [decide_eq_true hd]
    exact hyes
  · rw [decide_eq_false hd, hopmeshlaw46_ImageDecodes.j0, if_neg (by simp)]
    have hz : d.size ≤ 1000000 := by omega
    have key : ∀ r, fDecode d = some r → image_Decode.f d = some r ∧ hopmeshref46_Decode.f d = some r := fun r hr => by
      refine ⟨hr, ?_⟩
      show PR.fDecodeR d = some r
      unfold PR.fDecodeR
      rw [if_pos hz]
      exact hr
    have same : ∀ (a b c e : Int) (l : List ByteArray), l.length ≤ 64 → hopmeshref46_Same.f a b c e l a b c e l = some true := fun a b c e l hl => by
      show PR.fSame a b c e l a b c e l = some true
      unfold PR.fSame PR.sameB
      rw [if_pos (by omega)]
      simp
    rcases PR.dec_any d hz with h | ⟨V, S, P, K, l, h, hok, he⟩
    · obtain ⟨e1, e2⟩ := key _ h
      have e3 : image_Encode.f 0 0 0 0 [] = some (⟨#[]⟩, 1) := by
        show A.image_Encode.f 0 0 0 0 [] = _
        rw [PR.Encode_at]
        rfl
      rw [e1, e2]
      simp only [Option.bind_some, if_true]
      rw [same _ _ _ _ _ (by simp), Option.bind_some, if_pos rfl, e3]
      rfl
    · obtain ⟨e1, e2⟩ := key _ h
      obtain ⟨-, -, -, -, hl, -⟩ := PR.man_ranges hok
      have e3 : image_Encode.f V S P K l = some (d, 0) := by
        show A.image_Encode.f V S P K l = _
        rw [PR.Encode_at, if_pos hok, he]
      rw [e1, e2]
      simp only [Option.bind_some, if_true]
      rw [same _ _ _ _ _ hl, Option.bind_some, if_pos rfl, e3]
      simp

end Go.Proofs.Ytnfcohpljgmaiaa.Pure
