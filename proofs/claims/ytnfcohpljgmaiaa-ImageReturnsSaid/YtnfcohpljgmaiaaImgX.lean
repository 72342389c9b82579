/- Plain facts of a page's digest. -/
import Derived.Test.YtnfcohpljgmaiaaImgC
namespace Go.Proofs.Ytnfcohpljgmaiaa
open Go.RowKit Go.Proofs.YtnfcohpljgmaiaaW.PrintLast Go.Proofs.YtnfcohpljgmaiaaW.PrintWords

theorem length_finishI (st : St) : (finish st).length = 32 := by
  unfold finish
  rw [length_bytesOf, length_compress]
theorem length_dsumI (s : List UInt8) : (dsum s).length = 32 := length_finishI _
theorem psum_val (v : Int) (i : Nat) (p : ByteArray) (hv : (Lit.int .i64 v).wf = true) (hi : (Lit.int .i64 (i : Int)).wf = true) (hp : p.size ≤ 1000000) : psum v i p = S8 (dsum ([112, 97, 103, 101] ++ numBytes [2, v, 2, (i : Int)] ++ p.data.toList)) := by
  have h := psum_some v i p hv hi hp
  have hn : B.image_number.f [2, v, 2, (i : Int)] = some ⟨(numBytes [2, v, 2, (i : Int)]).toArray⟩ := by
    unfold B.image_sum.f B.image_number.f fNumber at h
    unfold B.image_number.f fNumber
    split
    · rfl
    · rename_i hh
      rw [if_neg hh] at h
      cases h
  unfold B.image_sum.f at h
  rw [hn] at h
  simp only [Option.bind_some] at h
  split at h
  · split at h
    · unfold B.digest_Sum.f fSum at h
      split at h
      · have h2 := Option.some.inj h
        rw [← h2]
        simp [S8, ByteArray.data_append]
      · cases h
    · cases h
  · cases h

end Go.Proofs.Ytnfcohpljgmaiaa
