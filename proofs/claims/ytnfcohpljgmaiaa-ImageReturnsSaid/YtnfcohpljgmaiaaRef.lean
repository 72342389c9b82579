/- The reference's functions of the image's layer, in plain words: each is the program's own. -/
import Derived.Test.YtnfcohpljgmaiaaRx0
import Derived.Test.YtnfcohpljgmaiaaRx3
import Derived.Test.YtnfcohpljgmaiaaRx4
import Derived.Test.YtnfcohpljgmaiaaImgX
import Derived.Test.YtnfcohpljgmaiaaImgE
import Derived.Test.YtnfcohpljgmaiaaImgGa
namespace Go.Proofs.Ytnfcohpljgmaiaa.PR
open Go.RowKit Go.Proofs.Ytnfcohpljgmaiaa.R Go.Proofs.YtnfcohpljgmaiaaW.PrintWords Go.Proofs.YtnfcohpljgmaiaaW.PrintLast

theorem eq_of_toList {x y : ByteArray} (h : x.toList = y.toList) : x = y := by
  rw [Lib.toList_data, Lib.toList_data] at h
  apply ByteArray.ext
  exact Array.toList_inj.1 h
theorem man_facts {V S P K : Int} {l : List ByteArray} (hok : okMan V S P K l = true) : (1 ≤ K ∧ K ≤ 96 ∧ K ≤ P ∧ P ≤ 4096 ∧ P % K = 0 ∧ P ≤ 64 * K) ∧ (1 ≤ S ∧ S ≤ 65536 ∧ l.length ≤ 64 ∧ (l.length : Int) = cnt S P) := by
  unfold okMan at hok
  simp only [Bool.and_eq_true, decide_eq_true_eq] at hok
  have hf := okSizes_facts hok.1.1
  exact ⟨⟨by omega, by omega, by omega, by omega, hf.2.2.2.2.2.2.1, hf.2.2.2.2.2.2.2⟩, hok.1.2⟩
/-! ### Encode, ID -/
def catS (l : List ByteArray) : List UInt8 := (l.map (·.data.toList)).flatten
theorem catS_cons (x : ByteArray) (l : List ByteArray) : catS (x :: l) = x.data.toList ++ catS l := by simp [catS]
theorem catS_len (l : List ByteArray) (h : all32 l = true) : (catS l).length = 32 * l.length := by
  induction l with
  | nil => rfl
  | cons x l ih =>
    unfold all32 at h
    simp only [List.all_cons, Bool.and_eq_true, beq_iff_eq] at h
    rw [catS_cons, List.length_append, ih h.2, List.length_cons]
    have : x.data.toList.length = x.size := by rw [Array.length_toList]; rfl
    omega
theorem joinB_cat (l : List ByteArray) : joinB l ⟨#[]⟩ = ⟨(catS l).toArray⟩ := by
  unfold joinB
  cases l with
  | nil => rfl
  | cons x l =>
    rw [List.map_cons, Lib.join_cons, catS_cons]
    unfold Lib.joinTail catS
    simp only [List.nil_append, List.map_id_fun', id_eq]
theorem size_mk (l : List UInt8) : ByteArray.size ⟨l.toArray⟩ = l.length := by simp [ByteArray.size]
/-- The bytes of a manifest. -/
def encB (V S P K : Int) (l : List ByteArray) : ByteArray := ⟨(be V 2 ++ be S 4 ++ be P 2 ++ be K 1 ++ catS l).toArray⟩
theorem encB_size (V S P K : Int) (l : List ByteArray) (h : all32 l = true) : (encB V S P K l).size = 9 + 32 * l.length := by
  unfold encB
  rw [size_mk, List.length_append, catS_len l h]
  simp [length_be]
theorem man_all32 {V S P K : Int} {l : List ByteArray} (hok : okMan V S P K l = true) : all32 l = true := by
  unfold okMan at hok
  simp only [Bool.and_eq_true] at hok
  exact hok.2
theorem encode_at {V S P K : Int} {l : List ByteArray} (hok : okMan V S P K l = true) : A.image_encode.f V S P K l = some (encB V S P K l) := by
  obtain ⟨⟨m1, m2, m3, m4, -, m5⟩, hs⟩ := man_facts hok
  have hv : 1 ≤ V ∧ V ≤ 65535 := by
    unfold okMan at hok
    simp only [Bool.and_eq_true] at hok
    have := okSizes_facts hok.1.1
    omega
  have ha := man_all32 hok
  have hc := catS_len l ha
  have hn : A.image_number.f [2, V, 4, S, 2, P, 1, K] = some ⟨(be V 2 ++ be S 4 ++ be P 2 ++ be K 1).toArray⟩ := by
    unfold A.image_number.f fNumber
    rw [if_pos]
    · congr 2
      simp [numBytes, numN]
    · unfold smallB
      simp only [Bool.and_eq_true, decide_eq_true_eq, List.all_eq_true, List.mem_cons, List.not_mem_nil, or_false]
      refine ⟨⟨by simp, ?_⟩, ?_⟩
      · intro x hx
        have hx' : x < 4 := by simpa using hx
        match x, hx' with
        | 0, _ => simp
        | 1, _ => simp
        | 2, _ => simp
        | 3, _ => simp
      · rintro x (rfl | rfl | rfl | rfl | rfl | rfl | rfl | rfl) <;> exact Go.WalkArith.wf_i64 ⟨by omega, by omega⟩
  have hj : A.strings_Join.f l ⟨#[]⟩ = some ⟨(catS l).toArray⟩ := by
    unfold A.strings_Join.f fJoin
    rw [joinB_cat, size_mk, if_pos (by omega)]
  unfold A.image_encode.f
  rw [hn, hj]
  simp only [Option.bind_some]
  rw [size_mk, size_mk, if_pos (by simp [length_be]; omega)]
  unfold encB
  congr 1
theorem Encode_at (V S P K : Int) (l : List ByteArray) : A.image_Encode.f V S P K l = some (if okMan V S P K l = true then (encB V S P K l, 0) else (⟨#[]⟩, 1)) := by
  unfold A.image_Encode.f A.image_Check.f fCheck
  by_cases hok : okMan V S P K l = true
  · rw [if_pos hok, if_pos hok, Option.bind_some, if_pos rfl, encode_at hok]
    rfl
  · rw [if_neg hok, if_neg hok]
    rfl
/-- A manifest's identifier. -/
def idB (V S P K : Int) (l : List ByteArray) : ByteArray := S8 (dsum ([105, 109, 97, 103, 101] ++ (encB V S P K l).data.toList))
theorem ID_at (V S P K : Int) (l : List ByteArray) : A.image_ID.f V S P K l = some (if okMan V S P K l = true then (idB V S P K l, 0) else (⟨#[]⟩, 1)) := by
  unfold A.image_ID.f A.image_Check.f fCheck
  by_cases hok : okMan V S P K l = true
  · obtain ⟨⟨m1, m2, m3, m4, -, m5⟩, hs⟩ := man_facts hok
    have hz := encB_size V S P K l (man_all32 hok)
    have h5 : ByteArray.size ⟨#[105, 109, 97, 103, 101]⟩ = 5 := rfl
    rw [if_pos hok, if_pos hok, Option.bind_some, if_pos rfl, encode_at hok, Option.bind_some, if_pos (by omega)]
    unfold A.digest_Sum.f fSum
    rw [if_pos (by rw [ByteArray.size_append]; omega)]
    simp only [Option.bind_some]
    unfold idB
    congr 3
  · rw [if_neg hok, if_neg hok]
    rfl

/-! ### Verify, Intact -/
/-! ### Same, Few -/
def sameB (a b c d : Int) (l : List ByteArray) (a' b' c' d' : Int) (l' : List ByteArray) : Bool := decide (a = a' ∧ b = b' ∧ c = c' ∧ d = d' ∧ l = l')
theorem refSame_l (l l' : List ByteArray) (a b c d a' b' c' d' : Int) (hl : l.length ≤ 1000000) (hh : l.length = l'.length) :
    ∀ (j i : Nat), i + j = l.length → hopmeshref46_Same.l0 (j + 1) i a b c d l a' b' c' d' l' = some (decide (l.drop i = l'.drop i))
  | 0, i, hi => by
    rw [hopmeshref46_Same.l0, if_neg (by omega), List.drop_eq_nil_of_le (by omega), List.drop_eq_nil_of_le (by omega)]
    rfl
  | j + 1, i, hi => by
    have e : wrap64 ((i : Int) + 1) = ((i + 1 : Nat) : Int) := by unfold wrap64; omega
    have hlt : i < l.length := by omega
    have hlt' : i < l'.length := by omega
    have hr : ∀ (m : List ByteArray) (h : i < m.length), rdOf ByteArray.empty m (i : Int) = m[i] := fun m h => by
      unfold rdOf
      rw [Int.toNat_natCast, List.getD_eq_getElem?_getD, List.getElem?_eq_getElem h]
      rfl
    rw [hopmeshref46_Same.l0, if_pos (by omega), if_pos (by omega), if_pos (by omega), hr l hlt, hr l' hlt', e, refSame_l l l' a b c d a' b' c' d' hl hh j (i + 1) (by omega), List.drop_eq_getElem_cons hlt, List.drop_eq_getElem_cons hlt']
    by_cases h : l[i] = l'[i]
    · rw [if_pos (by rw [h]), h]
      congr 1
      rw [decide_eq_decide, List.cons_eq_cons]
      exact ⟨fun h2 => ⟨rfl, h2⟩, fun h2 => h2.2⟩
    · rw [if_neg (fun e => h (eq_of_toList e)), decide_eq_false (fun h2 => h (List.cons_eq_cons.1 h2).1)]
theorem refSame (a b c d : Int) (l : List ByteArray) (a' b' c' d' : Int) (l' : List ByteArray) (hl : l.length ≤ 1000000) : hopmeshref46_Same.f (l.length + 2) a b c d l a' b' c' d' l' = some (sameB a b c d l a' b' c' d' l') := by
  have hno : hopmeshref46_Same.j0 (l.length + 2) true a b c d l a' b' c' d' l' = some false := rfl
  unfold hopmeshref46_Same.f sameB
  by_cases h1 : a = a'
  · by_cases h2 : b = b'
    · by_cases h3 : c = c'
      · by_cases h4 : d = d'
        · rw [if_pos h1, if_pos h2, if_pos h3, if_pos h4]
          by_cases h5 : l.length = l'.length
          · have e : ((l.length : Int) != (l'.length : Int)) = false := by rw [h5]; simp
            have h0 := refSame_l l l' a b c d a' b' c' d' hl h5 l.length 0 (by omega)
            rw [List.drop_zero, List.drop_zero] at h0
            rw [e, hopmeshref46_Same.j0, if_neg (by simp)]
            refine h0.trans ?_
            congr 1
            rw [decide_eq_decide]
            exact ⟨fun h => ⟨h1, h2, h3, h4, h⟩, fun h => h.2.2.2.2⟩
          · have e : ((l.length : Int) != (l'.length : Int)) = true := by simp; omega
            rw [e, hno, decide_eq_false]
            exact fun h => h5 (by rw [h.2.2.2.2])
        · rw [if_pos h1, if_pos h2, if_pos h3, if_neg h4, hno, decide_eq_false (fun h => h4 h.2.2.2.1)]
      · rw [if_pos h1, if_pos h2, if_neg h3, hno, decide_eq_false (fun h => h3 h.2.2.1)]
    · rw [if_pos h1, if_neg h2, hno, decide_eq_false (fun h => h2 h.2.1)]
  · rw [if_neg h1, hno, decide_eq_false (fun h => h1 h.1)]
def fewB (l : List ByteArray) : Bool := decide (l.length ≤ 70) && l.all fun s => decide (s.size ≤ 100)
theorem refFew_l (V S P K : Int) (l : List ByteArray) (hl : l.length ≤ 1000000) :
    ∀ (j i : Nat), i + j = l.length → hopmeshref46_Few.l0 (j + 1) i V S P K l = some ((l.drop i).all fun s => decide (s.size ≤ 100))
  | 0, i, hi => by
    rw [hopmeshref46_Few.l0, if_neg (by omega), List.drop_eq_nil_of_le (by omega)]
    rfl
  | j + 1, i, hi => by
    have e : wrap64 ((i : Int) + 1) = ((i + 1 : Nat) : Int) := by unfold wrap64; omega
    have hlt : i < l.length := by omega
    have hr : rdOf ByteArray.empty l (i : Int) = l[i] := by
      unfold rdOf
      rw [Int.toNat_natCast, List.getD_eq_getElem?_getD, List.getElem?_eq_getElem hlt]
      rfl
    rw [hopmeshref46_Few.l0, if_pos (by omega), if_pos (by omega), hr, List.drop_eq_getElem_cons hlt, List.all_cons, e, refFew_l V S P K l hl j (i + 1) (by omega)]
    by_cases h : (l[i].size : Int) > 100
    · rw [if_pos h, decide_eq_false (by omega), Bool.false_and]
    · rw [if_neg h, decide_eq_true (by omega), Bool.true_and]
theorem refFew (V S P K : Int) (l : List ByteArray) : hopmeshref46_Few.f 72 V S P K l = some (fewB l) := by
  unfold hopmeshref46_Few.f fewB
  by_cases h : (l.length : Int) > 70
  · rw [if_pos h, decide_eq_false (by omega), Bool.false_and]
  · rw [if_neg h, decide_eq_true (by omega), Bool.true_and]
    have h0 := refFew_l V S P K l (by omega) l.length 0 (by omega)
    have hm : ∀ m, hopmeshref46_Few.l0 (l.length + 1 + m) 0 V S P K l = some (l.all fun s => decide (s.size ≤ 100)) := by
      intro m
      induction m with
      | zero => exact h0
      | succ m ih => exact hopmeshref46_Few.mono_l _ _ _ _ _ _ _ _ ih
    have := hm (71 - l.length)
    rw [show l.length + 1 + (71 - l.length) = 72 by omega] at this
    exact this

/-! ### Decode -/
theorem value_up (s : ByteArray) {v : Int} {n : Nat} (h : B.image_value.f n s = some v) : ∀ {k : Nat}, n ≤ k → B.image_value.f k s = some v := by
  intro k hk
  obtain ⟨m, rfl⟩ := Nat.exists_eq_add_of_le hk
  clear hk
  induction m with
  | zero => exact h
  | succ m ih => exact B.image_value.mono _ _ _ ih
/-- The digests in the bytes of a manifest. -/
def chs (d : ByteArray) (c : Nat) : List ByteArray := (List.range c).map fun i => d.extract (9 + 32 * i) (41 + 32 * i)
theorem chs_len (d : ByteArray) (c : Nat) : (chs d c).length = c := by simp [chs]
theorem chs_snoc (d : ByteArray) (c : Nat) : chs d (c + 1) = chs d c ++ [d.extract (9 + 32 * c) (41 + 32 * c)] := by simp [chs, List.range_succ]
theorem dpages_chs (d : ByteArray) (n : Nat) (hd : d.size = 9 + 32 * n) : dpages d = chs d n := by
  unfold dpages pgs chs
  rw [show (d.size - 9) / 32 = n by omega]
  apply List.map_congr_left
  intro i hi
  have hi' := List.mem_range.1 hi
  unfold pg
  rw [ByteArray.extract_extract, ByteArray.size_extract]
  congr 1 <;> omega
/-! ### What the printed texts of the laws call -/
def fFew (_ _ _ _ : Int) (l : List ByteArray) : Option Bool := some (fewB l)
def fSame (a b c d : Int) (l : List ByteArray) (a' b' c' d' : Int) (l' : List ByteArray) : Option Bool := if l.length ≤ 1000000 then some (sameB a b c d l a' b' c' d' l') else none
theorem uFew {V S P K : Int} {l : List ByteArray} {r : Bool} (h : fFew V S P K l = some r) : hopmeshref46_Few.f 72 V S P K l = some r := (refFew V S P K l).trans h
theorem uSame {a b c d : Int} {l : List ByteArray} {a' b' c' d' : Int} {l' : List ByteArray} {r : Bool} (h : fSame a b c d l a' b' c' d' l' = some r) : hopmeshref46_Same.f (l.length + 2) a b c d l a' b' c' d' l' = some r := by
  unfold fSame at h
  split at h
  · exact (refSame a b c d l a' b' c' d' l' ‹_›).trans h
  · cases h
end Go.Proofs.Ytnfcohpljgmaiaa.PR
