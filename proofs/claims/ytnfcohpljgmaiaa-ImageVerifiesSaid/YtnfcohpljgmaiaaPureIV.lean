/- ImageVerifies: Verify and Intact are the reference's, at each manifest, page and data. -/
import Derived.Test.YtnfcohpljgmaiaaQIVx0
import Derived.Test.YtnfcohpljgmaiaaQIVx1
import Derived.Test.YtnfcohpljgmaiaaQIVx2
import Derived.Test.YtnfcohpljgmaiaaRef
namespace Go.Proofs.Ytnfcohpljgmaiaa.PIV
open Go.RowKit Go.Proofs.Ytnfcohpljgmaiaa.QIV Go.Proofs.YtnfcohpljgmaiaaW.PrintWords Go.Proofs.YtnfcohpljgmaiaaW.PrintLast

theorem verify_some (V S P K : Int) (l : List ByteArray) (i : Int) (d : ByteArray) : ∃ r, A.image_Verify.f V S P K l i d = some r := by
  by_cases hok : okMan V S P K l = true
  · by_cases h0 : 0 ≤ i ∧ i < (l.length : Int)
    · obtain ⟨n, rfl⟩ := Int.eq_ofNat_of_zero_le h0.1
      exact ⟨_, PR.Verify_at V S P K l hok n (Int.ofNat_lt.1 h0.2) d⟩
    · unfold A.image_Verify.f A.image_page.f A.image_Check.f fCheck
      rw [if_pos hok, Option.bind_some, if_pos rfl]
      by_cases h1 : i < 0
      · rw [if_pos h1]
        exact ⟨_, rfl⟩
      · rw [if_neg h1, if_pos (by omega)]
        exact ⟨_, rfl⟩
  · unfold A.image_Verify.f A.image_page.f A.image_Check.f fCheck
    rw [if_neg hok]
    exact ⟨_, rfl⟩
theorem intact_some (V S P K : Int) (l : List ByteArray) (d : ByteArray) (hl : l.length ≤ 70) : ∃ r, fIntact V S P K l d = some r := by
  unfold fIntact
  have hb : ¬ l.length > 1000000000 := by omega
  rw [if_neg hb]
  split
  · split <;> exact ⟨_, rfl⟩
  · exact ⟨_, rfl⟩
theorem verifies (V S P K : Int) (l : List ByteArray) (i : Int) (d : ByteArray) : hopmeshlaw46_ImageVerifies.f 1 V S P K l i d = some true := by
  have hyes : hopmeshlaw46_ImageVerifies.j0 1 i d true V S P K l = some true := rfl
  unfold hopmeshlaw46_ImageVerifies.f
  show (some true).bind _ = _
  rw [Option.bind_some, if_pos rfl]
  show (some (PR.fewB l)).bind _ = _
  rw [Option.bind_some]
  by_cases hf : PR.fewB l = true
  · rw [if_pos hf]
    have hl : l.length ≤ 70 := by
      unfold PR.fewB at hf
      simp only [Bool.and_eq_true, decide_eq_true_eq] at hf
      exact hf.1
    cases hd : decide ((d.size : Int) > 1000)
    · obtain ⟨r, hr⟩ := verify_some V S P K l i d
      obtain ⟨q, hq⟩ := intact_some V S P K l d hl
      have e1 : image_Verify.f V S P K l i d = some r := hr
      have e2 : hopmeshref46_Verify.f V S P K l i d = some r := hr
      have e3 : image_Intact.f V S P K l d = some q := hq
      have e4 : hopmeshref46_Intact.f V S P K l d = some q := hq
      rw [hopmeshlaw46_ImageVerifies.j0, if_neg (by simp), e1, e2, e3, e4]
      simp
    · exact hyes
  · rw [if_neg hf]
    exact hyes
theorem row (V S P K : Int) (A : Option Addr) (c : Nat) (l : List ByteArray) (i : Int) (d : ByteArray) (w : World) (hC : Kd.C Kd.string w A l.length l) (hc : l.length ≤ c) :
    Calls Try.prog 7 #[.agg #[.int .i64 V, .int .i64 S, .int .i64 P, .int .i64 K, .slice A l.length c], .int .i64 i, .string d] w fun e w' => e = .returned (.bool true) ∧ Below w.heap.size w w' :=
  hopmeshlaw46_ImageVerifies.calls 1 V S P K A c l i d true w hC hc (verifies V S P K l i d)

end Go.Proofs.Ytnfcohpljgmaiaa.PIV
