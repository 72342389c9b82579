/- ImageReturns: Decode restores each valid manifest from its bytes, and no beginning of them is accepted. -/
import Derived.Test.YtnfcohpljgmaiaaQIRx0
import Derived.Test.YtnfcohpljgmaiaaQIRx1
import Derived.Test.YtnfcohpljgmaiaaDec
namespace Go.Proofs.Ytnfcohpljgmaiaa.PIR
open Go.RowKit Go.Proofs.Ytnfcohpljgmaiaa.QIR Go.Proofs.YtnfcohpljgmaiaaW.PrintWords Go.Proofs.YtnfcohpljgmaiaaW.PrintLast

theorem returns (V S P K : Int) (l : List ByteArray) (c : Int) (hc0 : 0 ≤ c) (hc1 : c < 65536) : hopmeshlaw46_ImageReturns.f 2 V S P K l c = some true := by
  have hyes : hopmeshlaw46_ImageReturns.j0 2 c true V S P K l = some true := rfl
  unfold hopmeshlaw46_ImageReturns.f
  show (some true).bind _ = _
  rw [Option.bind_some, if_pos rfl]
  show (some (PR.fewB l)).bind _ = _
  rw [Option.bind_some]
  cases PR.fewB l
  · exact hyes
  · show hopmeshlaw46_ImageReturns.j0 2 c false V S P K l = some true
    have e1 : image_Encode.f V S P K l = _ := PR.Encode_at V S P K l
    have e3 : image_ID.f V S P K l = _ := PR.ID_at V S P K l
    have e5 : image_Check.f V S P K l = some (if okMan V S P K l = true then 0 else 1) := rfl
    rw [hopmeshlaw46_ImageReturns.j0, if_neg (by simp), e1]
    by_cases hok : okMan V S P K l = true
    · obtain ⟨-, -, -, -, hl, ha⟩ := PR.man_ranges hok
      have hz := PR.encB_size V S P K l ha
      have hne : (PR.encB V S P K l).toList.isEmpty = false := nonempty_of _ (by omega)
      have hne2 : ((PR.encB V S P K l).toList == ([] : List UInt8)) = false := by
        cases he : (PR.encB V S P K l).toList with
        | nil => rw [he] at hne; cases hne
        | cons a b => rfl
      have ew : wrap64 c = c := by unfold wrap64; omega
      have et : Int.tmod c ((PR.encB V S P K l).size : Int) = c % ((PR.encB V S P K l).size : Int) := Int.tmod_eq_emod_of_nonneg hc0
      have hm0 := Int.emod_nonneg c (show ((PR.encB V S P K l).size : Int) ≠ 0 by omega)
      have hm1 := Int.emod_lt_of_pos c (show 0 < ((PR.encB V S P K l).size : Int) by omega)
      have d1 : image_Decode.f (PR.encB V S P K l) = some (V, S, P, K, l, 0) := PR.dec_enc hok
      have d2 : image_Decode.f ((PR.encB V S P K l).extract 0 (c % ((PR.encB V S P K l).size : Int)).toNat) = some (0, 0, 0, 0, [], 10) := PR.dec_cut hok _ (by omega)
      have hs : hopmeshref46_Same.f V S P K l V S P K l = some true := by
        show PR.fSame V S P K l V S P K l = some true
        unfold PR.fSame PR.sameB
        rw [if_pos (by omega)]
        simp
      have hid : (PR.idB V S P K l).size = 32 := by
        unfold PR.idB
        simp [S8, ByteArray.size, length_dsumI]
      simp only [if_pos hok, Option.bind_some, if_true]
      rw [hne2, hopmeshlaw46_ImageReturns.j1, if_neg (by simp), d1, ew, et, Option.bind_some, if_neg (by omega), if_pos hm0, if_pos (by omega), d2, Option.bind_some, e3, if_pos hok, Option.bind_some]
      simp only [if_true]
      rw [hs]
      simp [hid]
    · simp only [if_neg hok, Option.bind_some]
      rw [if_neg (by omega), hopmeshlaw46_ImageReturns.j1, if_pos rfl, if_neg (by omega), e5, if_neg hok, if_pos (List.isEmpty_iff.1 (empty_of ⟨#[]⟩ rfl))]
      rfl
theorem row (V S P K : Int) (A : Option Addr) (c : Nat) (l : List ByteArray) (x : Int) (hx : (Lit.int .u16 x).wf = true) (w : World) (hC : Kd.C Kd.string w A l.length l) (hc : l.length ≤ c) :
    Calls Try.prog 10 #[.agg #[.int .i64 V, .int .i64 S, .int .i64 P, .int .i64 K, .slice A l.length c], .int .u16 x] w fun e w' => e = .returned (.bool true) ∧ Below w.heap.size w w' := by
  have hx' : 0 ≤ x ∧ x < 65536 := by
    have h : (decide (IntKind.u16.min ≤ x) && decide (x ≤ IntKind.u16.max)) = true := hx
    simp only [Bool.and_eq_true, decide_eq_true_eq] at h
    have h1 : IntKind.u16.min = 0 := by decide +kernel
    have h2 : IntKind.u16.max = 65535 := by decide +kernel
    omega
  exact hopmeshlaw46_ImageReturns.calls 2 V S P K A c l x true w hC hc (returns V S P K l x hx'.1 hx'.2)

end Go.Proofs.Ytnfcohpljgmaiaa.PIR
