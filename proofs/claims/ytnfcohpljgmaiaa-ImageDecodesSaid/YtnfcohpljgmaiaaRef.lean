/- The reference's functions of the image's layer, in plain words: each is the program's own. -/
import Derived.Test.YtnfcohpljgmaiaaRx0
import Derived.Test.YtnfcohpljgmaiaaRx1
import Derived.Test.YtnfcohpljgmaiaaRx2
import Derived.Test.YtnfcohpljgmaiaaRx4
import Derived.Test.YtnfcohpljgmaiaaRx11
import Derived.Test.YtnfcohpljgmaiaaRx12
import Derived.Test.YtnfcohpljgmaiaaImgX
import Derived.Test.YtnfcohpljgmaiaaImgE
import Derived.Test.YtnfcohpljgmaiaaImgGa
namespace Go.Proofs.Ytnfcohpljgmaiaa.PR
open Go.RowKit Go.Proofs.Ytnfcohpljgmaiaa.R Go.Proofs.YtnfcohpljgmaiaaW.PrintWords Go.Proofs.YtnfcohpljgmaiaaW.PrintLast

theorem eq_of_toList {x y : ByteArray} (h : x.toList = y.toList) : x = y := by
  rw [Lib.toList_data, Lib.toList_data] at h
  apply ByteArray.ext
  exact Array.toList_inj.1 h
theorem refsizes (v s k : Int) : hopmeshref46_sizes.f v s k = some (okSizes v s k) := by
  unfold hopmeshref46_sizes.f okSizes
  by_cases h1 : v ≥ 1
  · by_cases h2 : v ≤ 65535
    · by_cases h3 : k ≥ 1
      · by_cases h4 : k ≤ 96
        · by_cases h5 : s ≥ k
          · rw [if_pos h1, if_pos h2, if_pos h3, if_pos h4, if_pos h5, if_neg (by omega)]
            have e : Int.tmod s k = s % k := Int.tmod_eq_emod_of_nonneg (by omega)
            have e2 : Int.tdiv s k = s / k := Int.tdiv_eq_ediv_of_nonneg (by omega)
            rw [e, e2]
            by_cases h6 : s % k = 0
            · by_cases h7 : s ≤ 4096
              · rw [if_pos h6, if_pos h7]
                have h8 : 0 ≤ s / k := Int.ediv_nonneg (by omega) (by omega)
                have h9 : s / k ≤ s := Int.ediv_le_self _ (by omega)
                have e3 : wrap64 (s / k) = s / k := by unfold wrap64; omega
                have e4 : s = s / k * k := by
                  have := Int.ediv_mul_add_emod s k
                  omega
                rw [e3]
                congr 1
                rw [decide_eq_decide]
                constructor
                · intro h
                  refine ⟨by omega, h2, by omega, h4, h5, h7, h6, ?_⟩
                  have := Int.mul_le_mul_of_nonneg_right h (show (0 : Int) ≤ k by omega)
                  omega
                · rintro ⟨-, -, -, -, -, -, -, h⟩
                  exact Int.ediv_le_of_le_mul (by omega) h
              · rw [if_pos h6, if_neg h7, decide_eq_false (by omega)]
            · rw [if_neg h6, decide_eq_false (fun h => h6 h.2.2.2.2.2.2.1)]
          · rw [if_pos h1, if_pos h2, if_pos h3, if_pos h4, if_neg h5, decide_eq_false (by omega)]
        · rw [if_pos h1, if_pos h2, if_pos h3, if_neg h4, decide_eq_false (by omega)]
      · rw [if_pos h1, if_pos h2, if_neg h3, decide_eq_false (by omega)]
    · rw [if_pos h1, if_neg h2, decide_eq_false (by omega)]
  · rw [if_neg h1, decide_eq_false (by omega)]
theorem refparts (n s : Int) (h0 : 0 ≤ n) (h1 : n ≤ 1000000000) (h2 : 1 ≤ s) (h3 : s ≤ 1000000) : hopmeshref46_parts.f n s = some (cnt n s) := count_eq n s h0 h1 h2 h3
theorem refCheck_l (V S P K : Int) (l : List ByteArray) (hl : l.length ≤ 1000000) :
    ∀ (j i : Nat), i + j = l.length → hopmeshref46_Check.l0 (j + 1) i V S P K l = some (if all32 (l.drop i) = true then 0 else 1)
  | 0, i, hi => by
    rw [hopmeshref46_Check.l0, if_neg (by omega), List.drop_eq_nil_of_le (by omega)]
    rfl
  | j + 1, i, hi => by
    have e : wrap64 ((i : Int) + 1) = ((i + 1 : Nat) : Int) := by unfold wrap64; omega
    have hlt : i < l.length := by omega
    have hr : rdOf ByteArray.empty l (i : Int) = l[i] := by
      unfold rdOf
      rw [Int.toNat_natCast, List.getD_eq_getElem?_getD, List.getElem?_eq_getElem hlt]
      rfl
    have ih := refCheck_l V S P K l hl j (i + 1) (by omega)
    have hd : all32 (l.drop i) = (decide (l[i].size = 32) && all32 (l.drop (i + 1))) := by
      rw [List.drop_eq_getElem_cons hlt]
      unfold all32
      rw [List.all_cons]
      rfl
    rw [hopmeshref46_Check.l0, if_pos (by omega), if_pos (by omega), hr, hd]
    by_cases h : l[i].size = 32
    · rw [if_pos (by omega), e, ih, decide_eq_true h, Bool.true_and]
    · rw [if_neg (by omega), decide_eq_false h, Bool.false_and, if_neg (by simp)]
theorem refCheck (V S P K : Int) (l : List ByteArray) (m : Nat) : hopmeshref46_Check.f (70 + m) V S P K l = fCheck V S P K l := by
  have hk : ∀ m, hopmeshref46_Check.f 70 V S P K l = fCheck V S P K l → hopmeshref46_Check.f (70 + m) V S P K l = fCheck V S P K l := by
    intro m h0
    induction m with
    | zero => exact h0
    | succ m ih =>
      unfold fCheck at ih ⊢
      exact hopmeshref46_Check.mono _ _ _ _ _ _ _ ih
  refine hk m ?_
  have hbad : hopmeshref46_Check.j0 70 true V S P K l = some 1 := rfl
  unfold hopmeshref46_Check.f fCheck okMan
  rw [refsizes, Option.bind_some]
  by_cases hok : okSizes V P K = true
  · have hf := okSizes_facts hok
    rw [if_pos hok, hok, Bool.true_and]
    by_cases h1 : S < 1
    · rw [if_pos h1, hbad, decide_eq_false (by omega)]
      rfl
    · by_cases h2 : S > 65536
      · rw [if_neg h1, if_pos h2, hbad, decide_eq_false (by omega)]
        rfl
      · by_cases h3 : (l.length : Int) > 64
        · rw [if_neg h1, if_neg h2, if_pos h3, hbad, decide_eq_false (by omega)]
          rfl
        · rw [if_neg h1, if_neg h2, if_neg h3, refparts _ _ (by omega) (by omega) (by omega) (by omega), Option.bind_some]
          by_cases h4 : (l.length : Int) = cnt S P
          · have hb : ((l.length : Int) != cnt S P) = false := by simpa using h4
            rw [hb, decide_eq_true (by omega), Bool.true_and, hopmeshref46_Check.j0, if_neg (by simp)]
            have h := refCheck_l V S P K l (by omega) l.length 0 (by omega)
            have hm : ∀ m, hopmeshref46_Check.l0 (l.length + 1 + m) 0 V S P K l = some (if all32 l = true then 0 else 1) := by
              intro m
              induction m with
              | zero => exact h
              | succ m ih => exact (hopmeshref46_Check.mono_l _).2 _ _ _ _ _ _ _ ih
            have := hm (68 - l.length)
            rw [show l.length + 1 + (68 - l.length) = 69 by omega] at this
            exact this
          · have hb : ((l.length : Int) != cnt S P) = true := by simpa using h4
            rw [hb, hbad, decide_eq_false (by omega)]
            rfl
  · rw [if_neg hok, hbad, Bool.eq_false_iff.2 hok]
    rfl


theorem man_facts {V S P K : Int} {l : List ByteArray} (hok : okMan V S P K l = true) : (1 ≤ K ∧ K ≤ 96 ∧ K ≤ P ∧ P ≤ 4096 ∧ P % K = 0 ∧ P ≤ 64 * K) ∧ (1 ≤ S ∧ S ≤ 65536 ∧ l.length ≤ 64 ∧ (l.length : Int) = cnt S P) := by
  unfold okMan at hok
  simp only [Bool.and_eq_true, decide_eq_true_eq] at hok
  have hf := okSizes_facts hok.1.1
  exact ⟨⟨by omega, by omega, by omega, by omega, hf.2.2.2.2.2.2.1, hf.2.2.2.2.2.2.2⟩, hok.1.2⟩
theorem refCheck' (V S P K : Int) (l : List ByteArray) {k : Nat} (hk : 70 ≤ k) : hopmeshref46_Check.f k V S P K l = fCheck V S P K l := by
  obtain ⟨m, rfl⟩ := Nat.exists_eq_add_of_le hk
  exact refCheck V S P K l m
/-! ### Encode, ID -/
def catS (l : List ByteArray) : List UInt8 := (l.map (·.data.toList)).flatten
theorem catS_cons (x : ByteArray) (l : List ByteArray) : catS (x :: l) = x.data.toList ++ catS l := by simp [catS]
theorem catS_len (l : List ByteArray) (h : all32 l = true) : (catS l).length = 32 * l.length := by
  induction l with
  | nil => rfl
  | cons x l ih =>
    unfold all32 at h
    simp only [List.all_cons, Bool.and_eq_true, beq_iff_eq] at h
    rw [catS_cons, List.length_append, ih h.2, List.length_cons]
    have : x.data.toList.length = x.size := by rw [Array.length_toList]; rfl
    omega
theorem joinB_cat (l : List ByteArray) : joinB l ⟨#[]⟩ = ⟨(catS l).toArray⟩ := by
  unfold joinB
  cases l with
  | nil => rfl
  | cons x l =>
    rw [List.map_cons, Lib.join_cons, catS_cons]
    unfold Lib.joinTail catS
    simp only [List.nil_append, List.map_id_fun', id_eq]
theorem size_mk (l : List UInt8) : ByteArray.size ⟨l.toArray⟩ = l.length := by simp [ByteArray.size]
/-- The bytes of a manifest. -/
def encB (V S P K : Int) (l : List ByteArray) : ByteArray := ⟨(be V 2 ++ be S 4 ++ be P 2 ++ be K 1 ++ catS l).toArray⟩
theorem man_all32 {V S P K : Int} {l : List ByteArray} (hok : okMan V S P K l = true) : all32 l = true := by
  unfold okMan at hok
  simp only [Bool.and_eq_true] at hok
  exact hok.2
theorem encode_at {V S P K : Int} {l : List ByteArray} (hok : okMan V S P K l = true) : A.image_encode.f V S P K l = some (encB V S P K l) := by
  obtain ⟨⟨m1, m2, m3, m4, -, m5⟩, hs⟩ := man_facts hok
  have hv : 1 ≤ V ∧ V ≤ 65535 := by
    unfold okMan at hok
    simp only [Bool.and_eq_true] at hok
    have := okSizes_facts hok.1.1
    omega
  have ha := man_all32 hok
  have hc := catS_len l ha
  have hn : A.image_number.f [2, V, 4, S, 2, P, 1, K] = some ⟨(be V 2 ++ be S 4 ++ be P 2 ++ be K 1).toArray⟩ := by
    unfold A.image_number.f fNumber
    rw [if_pos]
    · congr 2
      simp [numBytes, numN]
    · unfold smallB
      simp only [Bool.and_eq_true, decide_eq_true_eq, List.all_eq_true, List.mem_cons, List.not_mem_nil, or_false]
      refine ⟨⟨by simp, ?_⟩, ?_⟩
      · intro x hx
        have hx' : x < 4 := by simpa using hx
        match x, hx' with
        | 0, _ => simp
        | 1, _ => simp
        | 2, _ => simp
        | 3, _ => simp
      · rintro x (rfl | rfl | rfl | rfl | rfl | rfl | rfl | rfl) <;> exact Go.WalkArith.wf_i64 ⟨by omega, by omega⟩
  have hj : A.strings_Join.f l ⟨#[]⟩ = some ⟨(catS l).toArray⟩ := by
    unfold A.strings_Join.f fJoin
    rw [joinB_cat, size_mk, if_pos (by omega)]
  unfold A.image_encode.f
  rw [hn, hj]
  simp only [Option.bind_some]
  rw [size_mk, size_mk, if_pos (by simp [length_be]; omega)]
  unfold encB
  congr 1
theorem Encode_at (V S P K : Int) (l : List ByteArray) : A.image_Encode.f V S P K l = some (if okMan V S P K l = true then (encB V S P K l, 0) else (⟨#[]⟩, 1)) := by
  unfold A.image_Encode.f A.image_Check.f fCheck
  by_cases hok : okMan V S P K l = true
  · rw [if_pos hok, if_pos hok, Option.bind_some, if_pos rfl, encode_at hok]
    rfl
  · rw [if_neg hok, if_neg hok]
    rfl
/-! ### Verify, Intact -/
/-! ### Same, Few -/
def sameB (a b c d : Int) (l : List ByteArray) (a' b' c' d' : Int) (l' : List ByteArray) : Bool := decide (a = a' ∧ b = b' ∧ c = c' ∧ d = d' ∧ l = l')
theorem refSame_l (l l' : List ByteArray) (a b c d a' b' c' d' : Int) (hl : l.length ≤ 1000000) (hh : l.length = l'.length) :
    ∀ (j i : Nat), i + j = l.length → hopmeshref46_Same.l0 (j + 1) i a b c d l a' b' c' d' l' = some (decide (l.drop i = l'.drop i))
  | 0, i, hi => by
    rw [hopmeshref46_Same.l0, if_neg (by omega), List.drop_eq_nil_of_le (by omega), List.drop_eq_nil_of_le (by omega)]
    rfl
  | j + 1, i, hi => by
    have e : wrap64 ((i : Int) + 1) = ((i + 1 : Nat) : Int) := by unfold wrap64; omega
    have hlt : i < l.length := by omega
    have hlt' : i < l'.length := by omega
    have hr : ∀ (m : List ByteArray) (h : i < m.length), rdOf ByteArray.empty m (i : Int) = m[i] := fun m h => by
      unfold rdOf
      rw [Int.toNat_natCast, List.getD_eq_getElem?_getD, List.getElem?_eq_getElem h]
      rfl
    rw [hopmeshref46_Same.l0, if_pos (by omega), if_pos (by omega), if_pos (by omega), hr l hlt, hr l' hlt', e, refSame_l l l' a b c d a' b' c' d' hl hh j (i + 1) (by omega), List.drop_eq_getElem_cons hlt, List.drop_eq_getElem_cons hlt']
    by_cases h : l[i] = l'[i]
    · rw [if_pos (by rw [h]), h]
      congr 1
      rw [decide_eq_decide, List.cons_eq_cons]
      exact ⟨fun h2 => ⟨rfl, h2⟩, fun h2 => h2.2⟩
    · rw [if_neg (fun e => h (eq_of_toList e)), decide_eq_false (fun h2 => h (List.cons_eq_cons.1 h2).1)]
theorem refSame (a b c d : Int) (l : List ByteArray) (a' b' c' d' : Int) (l' : List ByteArray) (hl : l.length ≤ 1000000) : hopmeshref46_Same.f (l.length + 2) a b c d l a' b' c' d' l' = some (sameB a b c d l a' b' c' d' l') := by
  have hno : hopmeshref46_Same.j0 (l.length + 2) true a b c d l a' b' c' d' l' = some false := rfl
  unfold hopmeshref46_Same.f sameB
  by_cases h1 : a = a'
  · by_cases h2 : b = b'
    · by_cases h3 : c = c'
      · by_cases h4 : d = d'
        · rw [if_pos h1, if_pos h2, if_pos h3, if_pos h4]
          by_cases h5 : l.length = l'.length
          · have e : ((l.length : Int) != (l'.length : Int)) = false := by rw [h5]; simp
            have h0 := refSame_l l l' a b c d a' b' c' d' hl h5 l.length 0 (by omega)
            rw [List.drop_zero, List.drop_zero] at h0
            rw [e, hopmeshref46_Same.j0, if_neg (by simp)]
            refine h0.trans ?_
            congr 1
            rw [decide_eq_decide]
            exact ⟨fun h => ⟨h1, h2, h3, h4, h⟩, fun h => h.2.2.2.2⟩
          · have e : ((l.length : Int) != (l'.length : Int)) = true := by simp; omega
            rw [e, hno, decide_eq_false]
            exact fun h => h5 (by rw [h.2.2.2.2])
        · rw [if_pos h1, if_pos h2, if_pos h3, if_neg h4, hno, decide_eq_false (fun h => h4 h.2.2.2.1)]
      · rw [if_pos h1, if_pos h2, if_neg h3, hno, decide_eq_false (fun h => h3 h.2.2.1)]
    · rw [if_pos h1, if_neg h2, hno, decide_eq_false (fun h => h2 h.2.1)]
  · rw [if_neg h1, hno, decide_eq_false (fun h => h1 h.1)]
/-! ### Decode -/
theorem refNumber_l (s : ByteArray) : ∀ (k : Nat) (x i : Int), hopmeshref46_number.l0 k s x i = B.image_value.l0 k s x s.size i
  | 0, _, _ => rfl
  | k + 1, x, i => by
    rw [hopmeshref46_number.l0, B.image_value.l0]
    by_cases h : i < (s.size : Int)
    · rw [if_pos h, if_pos h, if_pos h, refNumber_l s k]
    · rw [if_neg h, if_neg h]
theorem refNumber (k : Nat) (s : ByteArray) : hopmeshref46_number.f k s = B.image_value.f k s := refNumber_l s k 0 0
theorem value_l (s : ByteArray) (hs : s.size ≤ 1000000) : ∀ (j i : Nat) (x : Int), i + j = s.size → ∃ v, B.image_value.l0 (j + 1) s x s.size i = some v
  | 0, i, x, hi => ⟨x, by rw [B.image_value.l0, if_neg (by omega)]⟩
  | j + 1, i, x, hi => by
    have e : wrap64 ((i : Int) + 1) = ((i + 1 : Nat) : Int) := by unfold wrap64; omega
    rw [B.image_value.l0, if_pos (by omega), if_pos (by omega), if_pos (by omega), e]
    exact value_l s hs j (i + 1) _ (by omega)
theorem value_up (s : ByteArray) {v : Int} {n : Nat} (h : B.image_value.f n s = some v) : ∀ {k : Nat}, n ≤ k → B.image_value.f k s = some v := by
  intro k hk
  obtain ⟨m, rfl⟩ := Nat.exists_eq_add_of_le hk
  clear hk
  induction m with
  | zero => exact h
  | succ m ih => exact B.image_value.mono _ _ _ ih
theorem value_some (s : ByteArray) (hs : s.size ≤ 10) : ∃ v, ∀ k, 20 ≤ k → B.image_value.f k s = some v := by
  obtain ⟨v, hv⟩ := value_l s (by omega) s.size 0 0 (by omega)
  exact ⟨v, fun k hk => value_up s (n := s.size + 1) hv (by omega)⟩
/-- The digests in the bytes of a manifest. -/
def chs (d : ByteArray) (c : Nat) : List ByteArray := (List.range c).map fun i => d.extract (9 + 32 * i) (41 + 32 * i)
theorem chs_len (d : ByteArray) (c : Nat) : (chs d c).length = c := by simp [chs]
theorem chs_snoc (d : ByteArray) (c : Nat) : chs d (c + 1) = chs d c ++ [d.extract (9 + 32 * c) (41 + 32 * c)] := by simp [chs, List.range_succ]
theorem dpages_chs (d : ByteArray) (n : Nat) (hd : d.size = 9 + 32 * n) : dpages d = chs d n := by
  unfold dpages pgs chs
  rw [show (d.size - 9) / 32 = n by omega]
  apply List.map_congr_left
  intro i hi
  have hi' := List.mem_range.1 hi
  unfold pg
  rw [ByteArray.extract_extract, ByteArray.size_extract]
  congr 1 <;> omega
theorem refDecode_l (d : ByteArray) (V S P K : Int) (n : Nat) (hd : d.size = 9 + 32 * n) (hz : d.size ≤ 1000000) : ∀ (j c : Nat), c + j = n →
    hopmeshref46_Decode.l0 (j + 71) d ((9 + 32 * c : Nat) : Int) V S P K (chs d c) = some (if okMan V S P K (chs d n) = true then (V, S, P, K, chs d n, 0) else (0, 0, 0, 0, [], 10))
  | 0, c, hc => by
    obtain rfl : c = n := by omega
    rw [hopmeshref46_Decode.l0, if_neg (by omega), refCheck' V S P K _ (by omega)]
    unfold fCheck
    by_cases hok : okMan V S P K (chs d c) = true
    · rw [if_pos hok, if_pos hok]
      rfl
    · rw [if_neg hok, if_neg hok]
      rfl
  | j + 1, c, hc => by
    have e : wrap64 (((9 + 32 * c : Nat) : Int) + 32) = ((9 + 32 * (c + 1) : Nat) : Int) := by unfold wrap64; omega
    rw [hopmeshref46_Decode.l0, if_pos (by omega), if_pos (by omega), e, if_pos (by omega), if_pos (by omega), if_pos (by rw [chs_len]; omega), Int.toNat_natCast, Int.toNat_natCast, show 9 + 32 * (c + 1) = 41 + 32 * c by omega, ← chs_snoc]
    have ih := refDecode_l d V S P K n hd hz j (c + 1) (by omega)
    rw [show 9 + 32 * (c + 1) = 41 + 32 * c by omega] at ih
    exact ih
theorem refDecode (d : ByteArray) (hz : d.size ≤ 1000000) : hopmeshref46_Decode.f 40000 d = fDecode d := by
  have hbad : hopmeshref46_Decode.j0 40000 d true = some (0, 0, 0, 0, [], 10) := rfl
  unfold hopmeshref46_Decode.f fDecode
  rw [if_neg (show ¬ (d.size : Int) > 1000000000 by omega)]
  by_cases h9 : (d.size : Int) < 9
  · rw [if_pos h9, if_pos (.inl h9), hbad]
  · rw [if_neg h9]
    have ew : wrap64 ((d.size : Int) - 9) = (d.size : Int) - 9 := by unfold wrap64; omega
    have et : Int.tmod ((d.size : Int) - 9) 32 = ((d.size : Int) - 9) % 32 := Int.tmod_eq_emod_of_nonneg (by omega)
    rw [ew, et]
    by_cases h32 : ((d.size : Int) - 9) % 32 = 0
    · have hb : (((d.size : Int) - 9) % 32 != 0) = false := by rw [h32]; rfl
      obtain ⟨n, hn⟩ : ∃ n, d.size = 9 + 32 * n := ⟨(d.size - 9) / 32, by omega⟩
      obtain ⟨V, hV⟩ := value_some (d.extract 0 2) (by rw [ByteArray.size_extract]; omega)
      obtain ⟨S, hS⟩ := value_some (d.extract 2 6) (by rw [ByteArray.size_extract]; omega)
      obtain ⟨P, hP⟩ := value_some (d.extract 6 8) (by rw [ByteArray.size_extract]; omega)
      obtain ⟨K, hK⟩ := value_some (d.extract 8 9) (by rw [ByteArray.size_extract]; omega)
      have hl : hopmeshref46_Decode.l0 39999 d 9 V S P K [] = some (if okMan V S P K (chs d n) = true then (V, S, P, K, chs d n, 0) else (0, 0, 0, 0, [], 10)) := by
        have h := refDecode_l d V S P K n hn hz n 0 (by omega)
        have hm : ∀ m, hopmeshref46_Decode.l0 (n + 71 + m) d 9 V S P K [] = some (if okMan V S P K (chs d n) = true then (V, S, P, K, chs d n, 0) else (0, 0, 0, 0, [], 10)) := by
          intro m
          induction m with
          | zero => exact h
          | succ m ih => exact (hopmeshref46_Decode.mono_l _).2 _ _ _ _ _ _ _ _ ih
        have := hm (39999 - (n + 71))
        rw [show n + 71 + (39999 - (n + 71)) = 39999 by omega] at this
        exact this
      have hj : hopmeshref46_Decode.j0 40000 d false = some (if okMan V S P K (chs d n) = true then (V, S, P, K, chs d n, 0) else (0, 0, 0, 0, [], 10)) := by
        rw [hopmeshref46_Decode.j0, if_neg (by simp), if_pos (by omega), if_pos (by omega), refNumber, hV 39999 (by omega)]
        simp only [Option.bind_some]
        rw [if_pos (by omega), if_pos (by omega), refNumber, hS 39999 (by omega)]
        simp only [Option.bind_some]
        rw [if_pos (by omega), if_pos (by omega), refNumber, hP 39999 (by omega)]
        simp only [Option.bind_some]
        rw [if_pos (by omega), if_pos (by omega), refNumber, hK 39999 (by omega)]
        exact hl
      rw [hb, hj]
      by_cases hbig : (d.size : Int) > 2057
      · have hno : ¬ okMan V S P K (chs d n) = true := fun hok => by
          obtain ⟨_, hs⟩ := man_facts hok
          rw [chs_len] at hs
          omega
        have hdb : dbad d := .inr (.inr hbig)
        rw [if_pos hdb, if_neg hno]
      · have hdb : ¬ dbad d := by rintro (h | h | h) <;> omega
        rw [if_neg hdb, hV 20 (by omega), Option.bind_some, hS 20 (by omega), Option.bind_some, hP 20 (by omega), Option.bind_some, hK 20 (by omega), Option.bind_some, dpages_chs d n hn]
        by_cases hok : okMan V S P K (chs d n) = true
        · rw [if_pos hok, if_pos hok]
        · rw [if_neg hok, if_neg hok]
    · have hb : (((d.size : Int) - 9) % 32 != 0) = true := by simpa using h32
      rw [hb, hbad, if_pos (.inr (.inl h32))]
/-! ### What the printed texts of the laws call -/
def fSame (a b c d : Int) (l : List ByteArray) (a' b' c' d' : Int) (l' : List ByteArray) : Option Bool := if l.length ≤ 1000000 then some (sameB a b c d l a' b' c' d' l') else none
theorem uSame {a b c d : Int} {l : List ByteArray} {a' b' c' d' : Int} {l' : List ByteArray} {r : Bool} (h : fSame a b c d l a' b' c' d' l' = some r) : hopmeshref46_Same.f (l.length + 2) a b c d l a' b' c' d' l' = some r := by
  unfold fSame at h
  split at h
  · exact (refSame a b c d l a' b' c' d' l' ‹_›).trans h
  · cases h
def fDecodeR (d : ByteArray) : Option (Int × Int × Int × Int × List ByteArray × Int) := if d.size ≤ 1000000 then fDecode d else none
theorem uDecode {d : ByteArray} {r : Int × Int × Int × Int × List ByteArray × Int} (h : fDecodeR d = some r) : hopmeshref46_Decode.f 40000 d = some r := by
  unfold fDecodeR at h
  split at h
  · exact (refDecode d ‹_›).trans h
  · cases h

end Go.Proofs.Ytnfcohpljgmaiaa.PR
