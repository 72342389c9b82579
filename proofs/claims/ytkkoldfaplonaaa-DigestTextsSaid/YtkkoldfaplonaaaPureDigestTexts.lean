/- For each string of at most 200 bytes: Hex gives a digest's text, from which Parse gives the digest back, and refuses other lengths; what Parse accepts is the text of what it gives, and all else is refused. No condition. -/
import Derived.Test.YtkkoldfaplonaaaQx2
namespace Go.Proofs.Ytkkoldfaplonaaa.Pure
open Go.RowKit Go.Proofs.Ytkkoldfaplonaaa.Q Go.Proofs.YtkkoldfaplonaaaW.PrintWords Go.Proofs.YtkkoldfaplonaaaW.PrintLast

theorem hex_val {c : UInt8} (h : isHex c = true) (b : UInt8) (hb : isHex b = true) : hexOf [UInt8.ofNat (hexVal c * 16 + hexVal b)] = [c, b] := by
  have h1 : ∀ c : Fin 256, isHex (UInt8.ofNat c.val) = true → hexDigit (hexVal (UInt8.ofNat c.val)) = UInt8.ofNat c.val := by decide +kernel
  have h2 : ∀ c : UInt8, isHex c = true → hexDigit (hexVal c) = c := by
    intro c hc
    have h3 := h1 ⟨c.toNat, c.toNat_lt⟩
    simp only [UInt8.ofNat_toNat] at h3
    exact h3 hc
  have e1 := hexVal_lt h
  have e2 := hexVal_lt hb
  have e3 : (UInt8.ofNat (hexVal c * 16 + hexVal b)).toNat = hexVal c * 16 + hexVal b := by
    rw [UInt8.toNat_ofNat']
    omega
  unfold hexOf
  simp only [List.flatMap_cons, List.flatMap_nil, List.append_nil]
  rw [e3, show (hexVal c * 16 + hexVal b) / 16 = hexVal c by omega, show (hexVal c * 16 + hexVal b) % 16 = hexVal b by omega, h2 c h, h2 b hb]

theorem hexOf_nib : ∀ l : List UInt8, l.length % 2 = 0 → l.all isHex = true → hexOf (nib l) = l
  | [], _, _ => rfl
  | [a], h, _ => by simp at h
  | a :: b :: r, h, ha => by
    simp only [List.all_cons, Bool.and_eq_true] at ha
    have h1 := hexOf_nib r (by simp only [List.length_cons] at h; omega) ha.2.2
    rw [nib]
    show hexOf ([UInt8.ofNat (hexVal a * 16 + hexVal b)] ++ nib r) = _
    unfold hexOf
    rw [List.flatMap_append]
    have h2 := hex_val ha.1 b ha.2.1
    unfold hexOf at h1 h2
    rw [h1, h2]
    rfl

theorem fHex_yes (a : ByteArray) (h : a.size = 32) : fHex a = (S8 (hexOf a.data.toList), 0) := by rw [fHex, if_pos h]
theorem fHex_no (a : ByteArray) (h : a.size ≠ 32) : fHex a = (⟨#[]⟩, 1) := by rw [fHex, if_neg h]

theorem texts_j0 (x0 : ByteArray) : hopmeshlaw01_DigestTexts.j0 1 x0 = some true := by
  simp only [hopmeshlaw01_DigestTexts.j0]
  unfold digest_Parse.f digest_Hex.f fParse
  simp only [Option.bind_some]
  by_cases h : x0.data.toList.length = 64 ∧ x0.data.toList.all isHex = true
  · have e : parsed x0.data.toList = (nib x0.data.toList, 0) := by rw [parsed, if_pos h]
    rw [e]
    simp only [if_true]
    have hl : (nib x0.data.toList).length = 32 := by rw [length_nib, h.1]
    rw [fHex_yes _ (by rw [S8_size, hl])]
    simp only [if_true]
    rw [S8_toList, hexOf_nib _ (by rw [h.1]) h.2]
    rw [if_pos (by rw [S8_of]), S8_size, hl]
    rfl
  · have e : parsed x0.data.toList = ([], 3) := by rw [parsed, if_neg h]
    rw [e]
    show some ((S8 []).toList == []) = some true
    rw [Lib.toList_data]
    rfl

theorem DigestTexts : hopmeshlaw01_DigestTexts.Pure := by
  intro a0 h
  refine ⟨1, ?_⟩
  unfold hopmeshlaw01_DigestTexts.f hopmeshlaw01_awake.f
  simp only [Option.bind_some, if_true]
  split
  · rfl
  · rw [texts_j0]
    unfold digest_Hex.f digest_Parse.f
    simp only [Option.bind_some]
    by_cases hs : a0.size = 32
    · rw [fHex_yes _ hs, if_pos (by omega)]
      unfold fParse
      rw [S8_toList, parsed_hexOf _ (by simpa using hs)]
      simp only [if_true]
      rw [S8_of, if_pos rfl, if_pos (by rw [S8_size, length_hexOf]; simp; omega)]
    · rw [fHex_no _ hs, if_neg (by omega)]
      simp only [if_true]
      rw [Lib.toList_data, if_pos rfl]

end Go.Proofs.Ytkkoldfaplonaaa.Pure
