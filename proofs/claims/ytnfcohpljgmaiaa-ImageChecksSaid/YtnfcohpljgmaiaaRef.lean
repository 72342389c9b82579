/- The reference's functions of the image's layer, in plain words: each is the program's own. -/
import Derived.Test.YtnfcohpljgmaiaaRx0
import Derived.Test.YtnfcohpljgmaiaaRx1
import Derived.Test.YtnfcohpljgmaiaaRx2
import Derived.Test.YtnfcohpljgmaiaaRx3
import Derived.Test.YtnfcohpljgmaiaaRx5
import Derived.Test.YtnfcohpljgmaiaaRx6
import Derived.Test.YtnfcohpljgmaiaaImgX
import Derived.Test.YtnfcohpljgmaiaaImgE
import Derived.Test.YtnfcohpljgmaiaaImgGa
namespace Go.Proofs.Ytnfcohpljgmaiaa.PR
open Go.RowKit Go.Proofs.Ytnfcohpljgmaiaa.R Go.Proofs.YtnfcohpljgmaiaaW.PrintWords Go.Proofs.YtnfcohpljgmaiaaW.PrintLast

theorem refsizes (v s k : Int) : hopmeshref46_sizes.f v s k = some (okSizes v s k) := by
  unfold hopmeshref46_sizes.f okSizes
  by_cases h1 : v ≥ 1
  · by_cases h2 : v ≤ 65535
    · by_cases h3 : k ≥ 1
      · by_cases h4 : k ≤ 96
        · by_cases h5 : s ≥ k
          · rw [if_pos h1, if_pos h2, if_pos h3, if_pos h4, if_pos h5, if_neg (by omega)]
            have e : Int.tmod s k = s % k := Int.tmod_eq_emod_of_nonneg (by omega)
            have e2 : Int.tdiv s k = s / k := Int.tdiv_eq_ediv_of_nonneg (by omega)
            rw [e, e2]
            by_cases h6 : s % k = 0
            · by_cases h7 : s ≤ 4096
              · rw [if_pos h6, if_pos h7]
                have h8 : 0 ≤ s / k := Int.ediv_nonneg (by omega) (by omega)
                have h9 : s / k ≤ s := Int.ediv_le_self _ (by omega)
                have e3 : wrap64 (s / k) = s / k := by unfold wrap64; omega
                have e4 : s = s / k * k := by
                  have := Int.ediv_mul_add_emod s k
                  omega
                rw [e3]
                congr 1
                rw [decide_eq_decide]
                constructor
                · intro h
                  refine ⟨by omega, h2, by omega, h4, h5, h7, h6, ?_⟩
                  have := Int.mul_le_mul_of_nonneg_right h (show (0 : Int) ≤ k by omega)
                  omega
                · rintro ⟨-, -, -, -, -, -, -, h⟩
                  exact Int.ediv_le_of_le_mul (by omega) h
              · rw [if_pos h6, if_neg h7, decide_eq_false (by omega)]
            · rw [if_neg h6, decide_eq_false (fun h => h6 h.2.2.2.2.2.2.1)]
          · rw [if_pos h1, if_pos h2, if_pos h3, if_pos h4, if_neg h5, decide_eq_false (by omega)]
        · rw [if_pos h1, if_pos h2, if_pos h3, if_neg h4, decide_eq_false (by omega)]
      · rw [if_pos h1, if_pos h2, if_neg h3, decide_eq_false (by omega)]
    · rw [if_pos h1, if_neg h2, decide_eq_false (by omega)]
  · rw [if_neg h1, decide_eq_false (by omega)]
theorem refparts (n s : Int) (h0 : 0 ≤ n) (h1 : n ≤ 1000000000) (h2 : 1 ≤ s) (h3 : s ≤ 1000000) : hopmeshref46_parts.f n s = some (cnt n s) := count_eq n s h0 h1 h2 h3
theorem refCheck_l (V S P K : Int) (l : List ByteArray) (hl : l.length ≤ 1000000) :
    ∀ (j i : Nat), i + j = l.length → hopmeshref46_Check.l0 (j + 1) i V S P K l = some (if all32 (l.drop i) = true then 0 else 1)
  | 0, i, hi => by
    rw [hopmeshref46_Check.l0, if_neg (by omega), List.drop_eq_nil_of_le (by omega)]
    rfl
  | j + 1, i, hi => by
    have e : wrap64 ((i : Int) + 1) = ((i + 1 : Nat) : Int) := by unfold wrap64; omega
    have hlt : i < l.length := by omega
    have hr : rdOf ByteArray.empty l (i : Int) = l[i] := by
      unfold rdOf
      rw [Int.toNat_natCast, List.getD_eq_getElem?_getD, List.getElem?_eq_getElem hlt]
      rfl
    have ih := refCheck_l V S P K l hl j (i + 1) (by omega)
    have hd : all32 (l.drop i) = (decide (l[i].size = 32) && all32 (l.drop (i + 1))) := by
      rw [List.drop_eq_getElem_cons hlt]
      unfold all32
      rw [List.all_cons]
      rfl
    rw [hopmeshref46_Check.l0, if_pos (by omega), if_pos (by omega), hr, hd]
    by_cases h : l[i].size = 32
    · rw [if_pos (by omega), e, ih, decide_eq_true h, Bool.true_and]
    · rw [if_neg (by omega), decide_eq_false h, Bool.false_and, if_neg (by simp)]
theorem refCheck (V S P K : Int) (l : List ByteArray) (m : Nat) : hopmeshref46_Check.f (70 + m) V S P K l = fCheck V S P K l := by
  have hk : ∀ m, hopmeshref46_Check.f 70 V S P K l = fCheck V S P K l → hopmeshref46_Check.f (70 + m) V S P K l = fCheck V S P K l := by
    intro m h0
    induction m with
    | zero => exact h0
    | succ m ih =>
      unfold fCheck at ih ⊢
      exact hopmeshref46_Check.mono _ _ _ _ _ _ _ ih
  refine hk m ?_
  have hbad : hopmeshref46_Check.j0 70 true V S P K l = some 1 := rfl
  unfold hopmeshref46_Check.f fCheck okMan
  rw [refsizes, Option.bind_some]
  by_cases hok : okSizes V P K = true
  · have hf := okSizes_facts hok
    rw [if_pos hok, hok, Bool.true_and]
    by_cases h1 : S < 1
    · rw [if_pos h1, hbad, decide_eq_false (by omega)]
      rfl
    · by_cases h2 : S > 65536
      · rw [if_neg h1, if_pos h2, hbad, decide_eq_false (by omega)]
        rfl
      · by_cases h3 : (l.length : Int) > 64
        · rw [if_neg h1, if_neg h2, if_pos h3, hbad, decide_eq_false (by omega)]
          rfl
        · rw [if_neg h1, if_neg h2, if_neg h3, refparts _ _ (by omega) (by omega) (by omega) (by omega), Option.bind_some]
          by_cases h4 : (l.length : Int) = cnt S P
          · have hb : ((l.length : Int) != cnt S P) = false := by simpa using h4
            rw [hb, decide_eq_true (by omega), Bool.true_and, hopmeshref46_Check.j0, if_neg (by simp)]
            have h := refCheck_l V S P K l (by omega) l.length 0 (by omega)
            have hm : ∀ m, hopmeshref46_Check.l0 (l.length + 1 + m) 0 V S P K l = some (if all32 l = true then 0 else 1) := by
              intro m
              induction m with
              | zero => exact h
              | succ m ih => exact (hopmeshref46_Check.mono_l _).2 _ _ _ _ _ _ _ ih
            have := hm (68 - l.length)
            rw [show l.length + 1 + (68 - l.length) = 69 by omega] at this
            exact this
          · have hb : ((l.length : Int) != cnt S P) = true := by simpa using h4
            rw [hb, hbad, decide_eq_false (by omega)]
            rfl
  · rw [if_neg hok, hbad, Bool.eq_false_iff.2 hok]
    rfl


theorem man_facts {V S P K : Int} {l : List ByteArray} (hok : okMan V S P K l = true) : (1 ≤ K ∧ K ≤ 96 ∧ K ≤ P ∧ P ≤ 4096 ∧ P % K = 0 ∧ P ≤ 64 * K) ∧ (1 ≤ S ∧ S ≤ 65536 ∧ l.length ≤ 64 ∧ (l.length : Int) = cnt S P) := by
  unfold okMan at hok
  simp only [Bool.and_eq_true, decide_eq_true_eq] at hok
  have hf := okSizes_facts hok.1.1
  exact ⟨⟨by omega, by omega, by omega, by omega, hf.2.2.2.2.2.2.1, hf.2.2.2.2.2.2.2⟩, hok.1.2⟩
theorem refCheck' (V S P K : Int) (l : List ByteArray) {k : Nat} (hk : 70 ≤ k) : hopmeshref46_Check.f k V S P K l = fCheck V S P K l := by
  obtain ⟨m, rfl⟩ := Nat.exists_eq_add_of_le hk
  exact refCheck V S P K l m
theorem shr0 (x y : Int) (h : y ≤ 64) : shr .i64 x y = x / 2 ^ y.toNat := by
  unfold shr
  rw [Nat.min_eq_left (by show y.toNat ≤ 64; omega)]
theorem refbytes2 (k : Nat) (x : Int) : hopmeshref46_bytes.f (k + 4) x 2 = some ⟨(be x 2).toArray⟩ := by
  have e1 : wrap64 (2 - 1) = 1 := by decide +kernel
  have e2 : wrap64 (8 * 1) = 8 := by decide +kernel
  have e3 : wrap64 (1 - 1) = 0 := by decide +kernel
  have e4 : wrap64 (8 * 0) = 0 := by decide +kernel
  have e5 : wrap64 (0 - 1) = -1 := by decide +kernel
  unfold hopmeshref46_bytes.f
  rw [e1, hopmeshref46_bytes.l0, if_pos (by omega), e2, if_pos (by omega), if_pos (by simp), e3, hopmeshref46_bytes.l0, if_pos (by omega), e4, if_pos (by omega), if_pos (by simp), e5, hopmeshref46_bytes.l0, if_neg (by omega), shr0 _ _ (by omega), shr0 _ _ (by omega)]
  rfl
/-! ### Encode, ID -/
def catS (l : List ByteArray) : List UInt8 := (l.map (·.data.toList)).flatten
theorem catS_cons (x : ByteArray) (l : List ByteArray) : catS (x :: l) = x.data.toList ++ catS l := by simp [catS]
theorem catS_len (l : List ByteArray) (h : all32 l = true) : (catS l).length = 32 * l.length := by
  induction l with
  | nil => rfl
  | cons x l ih =>
    unfold all32 at h
    simp only [List.all_cons, Bool.and_eq_true, beq_iff_eq] at h
    rw [catS_cons, List.length_append, ih h.2, List.length_cons]
    have : x.data.toList.length = x.size := by rw [Array.length_toList]; rfl
    omega
theorem joinB_cat (l : List ByteArray) : joinB l ⟨#[]⟩ = ⟨(catS l).toArray⟩ := by
  unfold joinB
  cases l with
  | nil => rfl
  | cons x l =>
    rw [List.map_cons, Lib.join_cons, catS_cons]
    unfold Lib.joinTail catS
    simp only [List.nil_append, List.map_id_fun', id_eq]
theorem size_mk (l : List UInt8) : ByteArray.size ⟨l.toArray⟩ = l.length := by simp [ByteArray.size]
theorem refbytes1 (k : Nat) (x : Int) : hopmeshref46_bytes.f (k + 4) x 1 = some ⟨(be x 1).toArray⟩ := by
  have e1 : wrap64 (1 - 1) = 0 := by decide +kernel
  have e4 : wrap64 (8 * 0) = 0 := by decide +kernel
  have e5 : wrap64 (0 - 1) = -1 := by decide +kernel
  unfold hopmeshref46_bytes.f
  rw [e1, hopmeshref46_bytes.l0, if_pos (by omega), e4, if_pos (by omega), if_pos (by simp), e5, hopmeshref46_bytes.l0, if_neg (by omega), shr0 _ _ (by omega)]
  rfl
theorem refbytes4 (k : Nat) (x : Int) : hopmeshref46_bytes.f (k + 6) x 4 = some ⟨(be x 4).toArray⟩ := by
  have e1 : wrap64 (4 - 1) = 3 := by decide +kernel
  have f3 : wrap64 (8 * 3) = 24 := by decide +kernel
  have f2 : wrap64 (8 * 2) = 16 := by decide +kernel
  have f1 : wrap64 (8 * 1) = 8 := by decide +kernel
  have f0 : wrap64 (8 * 0) = 0 := by decide +kernel
  have g3 : wrap64 (3 - 1) = 2 := by decide +kernel
  have g2 : wrap64 (2 - 1) = 1 := by decide +kernel
  have g1 : wrap64 (1 - 1) = 0 := by decide +kernel
  have g0 : wrap64 (0 - 1) = -1 := by decide +kernel
  unfold hopmeshref46_bytes.f
  rw [e1, hopmeshref46_bytes.l0, if_pos (by omega), f3, if_pos (by omega), if_pos (by simp), g3, hopmeshref46_bytes.l0, if_pos (by omega), f2, if_pos (by omega), if_pos (by simp), g2, hopmeshref46_bytes.l0, if_pos (by omega), f1, if_pos (by omega), if_pos (by simp), g1,
    hopmeshref46_bytes.l0, if_pos (by omega), f0, if_pos (by omega), if_pos (by simp), g0, hopmeshref46_bytes.l0, if_neg (by omega), shr0 _ _ (by omega), shr0 _ _ (by omega), shr0 _ _ (by omega), shr0 _ _ (by omega)]
  rfl
/-- The bytes of a manifest. -/
def encB (V S P K : Int) (l : List ByteArray) : ByteArray := ⟨(be V 2 ++ be S 4 ++ be P 2 ++ be K 1 ++ catS l).toArray⟩
theorem encB_size (V S P K : Int) (l : List ByteArray) (h : all32 l = true) : (encB V S P K l).size = 9 + 32 * l.length := by
  unfold encB
  rw [size_mk, List.length_append, catS_len l h]
  simp [length_be]
theorem man_all32 {V S P K : Int} {l : List ByteArray} (hok : okMan V S P K l = true) : all32 l = true := by
  unfold okMan at hok
  simp only [Bool.and_eq_true] at hok
  exact hok.2
theorem encode_at {V S P K : Int} {l : List ByteArray} (hok : okMan V S P K l = true) : A.image_encode.f V S P K l = some (encB V S P K l) := by
  obtain ⟨⟨m1, m2, m3, m4, -, m5⟩, hs⟩ := man_facts hok
  have hv : 1 ≤ V ∧ V ≤ 65535 := by
    unfold okMan at hok
    simp only [Bool.and_eq_true] at hok
    have := okSizes_facts hok.1.1
    omega
  have ha := man_all32 hok
  have hc := catS_len l ha
  have hn : A.image_number.f [2, V, 4, S, 2, P, 1, K] = some ⟨(be V 2 ++ be S 4 ++ be P 2 ++ be K 1).toArray⟩ := by
    unfold A.image_number.f fNumber
    rw [if_pos]
    · congr 2
      simp [numBytes, numN]
    · unfold smallB
      simp only [Bool.and_eq_true, decide_eq_true_eq, List.all_eq_true, List.mem_cons, List.not_mem_nil, or_false]
      refine ⟨⟨by simp, ?_⟩, ?_⟩
      · intro x hx
        have hx' : x < 4 := by simpa using hx
        match x, hx' with
        | 0, _ => simp
        | 1, _ => simp
        | 2, _ => simp
        | 3, _ => simp
      · rintro x (rfl | rfl | rfl | rfl | rfl | rfl | rfl | rfl) <;> exact Go.WalkArith.wf_i64 ⟨by omega, by omega⟩
  have hj : A.strings_Join.f l ⟨#[]⟩ = some ⟨(catS l).toArray⟩ := by
    unfold A.strings_Join.f fJoin
    rw [joinB_cat, size_mk, if_pos (by omega)]
  unfold A.image_encode.f
  rw [hn, hj]
  simp only [Option.bind_some]
  rw [size_mk, size_mk, if_pos (by simp [length_be]; omega)]
  unfold encB
  congr 1
theorem Encode_at (V S P K : Int) (l : List ByteArray) : A.image_Encode.f V S P K l = some (if okMan V S P K l = true then (encB V S P K l, 0) else (⟨#[]⟩, 1)) := by
  unfold A.image_Encode.f A.image_Check.f fCheck
  by_cases hok : okMan V S P K l = true
  · rw [if_pos hok, if_pos hok, Option.bind_some, if_pos rfl, encode_at hok]
    rfl
  · rw [if_neg hok, if_neg hok]
    rfl
theorem refEncode_l (V S P K : Int) (l : List ByteArray) (hl : l.length ≤ 1000000) : ∀ (j i : Nat) (acc : ByteArray), i + j = l.length → acc.size + (catS (l.drop i)).length ≤ 1000000 →
    hopmeshref46_Encode.l0 (j + 1) acc i V S P K l = some (⟨(acc.data.toList ++ catS (l.drop i)).toArray⟩, 0)
  | 0, i, acc, hi, _ => by
    rw [hopmeshref46_Encode.l0, if_neg (by omega), List.drop_eq_nil_of_le (by omega)]
    congr 2
    apply ByteArray.ext
    simp [catS]
  | j + 1, i, acc, hi, hz => by
    have e : wrap64 ((i : Int) + 1) = ((i + 1 : Nat) : Int) := by unfold wrap64; omega
    have hlt : i < l.length := by omega
    have hr : rdOf ByteArray.empty l (i : Int) = l[i] := by
      unfold rdOf
      rw [Int.toNat_natCast, List.getD_eq_getElem?_getD, List.getElem?_eq_getElem hlt]
      rfl
    have hd : catS (l.drop i) = l[i].data.toList ++ catS (l.drop (i + 1)) := by rw [List.drop_eq_getElem_cons hlt, catS_cons]
    have hs : l[i].data.toList.length = l[i].size := by rw [Array.length_toList]; rfl
    rw [hd, List.length_append] at hz
    rw [hopmeshref46_Encode.l0, if_pos (by omega), if_pos (by omega), hr, if_pos (by omega), e, refEncode_l V S P K l hl j (i + 1) _ (by omega) (by rw [ByteArray.size_append]; omega), hd]
    congr 3
    simp [ByteArray.data_append]
theorem refEncode (V S P K : Int) (l : List ByteArray) {k : Nat} (hk : 80 ≤ k) : hopmeshref46_Encode.f k V S P K l = A.image_Encode.f V S P K l := by
  rw [Encode_at]
  unfold hopmeshref46_Encode.f
  rw [refCheck' V S P K l (by omega)]
  unfold fCheck
  by_cases hok : okMan V S P K l = true
  · obtain ⟨⟨m1, m2, m3, m4, -, m5⟩, hs⟩ := man_facts hok
    have ha := man_all32 hok
    obtain ⟨k, rfl⟩ : ∃ m, k = m + 80 := ⟨k - 80, by omega⟩
    have b2 : ∀ x, hopmeshref46_bytes.f (k + 80) x 2 = some ⟨(be x 2).toArray⟩ := fun x => refbytes2 (k + 76) x
    have b4 : ∀ x, hopmeshref46_bytes.f (k + 80) x 4 = some ⟨(be x 4).toArray⟩ := fun x => refbytes4 (k + 74) x
    have b1 : ∀ x, hopmeshref46_bytes.f (k + 80) x 1 = some ⟨(be x 1).toArray⟩ := fun x => refbytes1 (k + 76) x
    rw [if_pos hok, if_pos hok]
    simp only [Option.bind_some, if_true, b2, b4, b1]
    rw [if_pos (by simp only [size_mk, length_be]; omega), if_pos (by simp only [ByteArray.size_append, size_mk, length_be]; omega), if_pos (by simp only [ByteArray.size_append, size_mk, length_be]; omega)]
    have hc := catS_len l ha
    have h := refEncode_l V S P K l (by omega) l.length 0 ((((⟨(be V 2).toArray⟩ : ByteArray) ++ ⟨(be S 4).toArray⟩) ++ ⟨(be P 2).toArray⟩) ++ ⟨(be K 1).toArray⟩) (by omega) (by rw [List.drop_zero, hc]; simp only [ByteArray.size_append, size_mk, length_be]; omega)
    have hm : ∀ m, hopmeshref46_Encode.l0 (l.length + 1 + m) ((((⟨(be V 2).toArray⟩ : ByteArray) ++ ⟨(be S 4).toArray⟩) ++ ⟨(be P 2).toArray⟩) ++ ⟨(be K 1).toArray⟩) 0 V S P K l = some (encB V S P K l, 0) := by
      intro m
      induction m with
      | zero =>
        refine h.trans ?_
        unfold encB
        rw [List.drop_zero]
        congr 3
      | succ m ih => exact hopmeshref46_Encode.mono_l _ _ _ _ _ _ _ _ _ ih
    have := hm (k + 80 - (l.length + 1))
    rw [show l.length + 1 + (k + 80 - (l.length + 1)) = k + 80 by omega] at this
    exact this
  · rw [if_neg hok, if_neg hok]
    rfl
theorem refID (V S P K : Int) (l : List ByteArray) {k : Nat} (hk : 80 ≤ k) : hopmeshref46_ID.f k V S P K l = A.image_ID.f V S P K l := by
  unfold hopmeshref46_ID.f A.image_ID.f
  rw [refEncode V S P K l hk, Encode_at]
  unfold A.image_Check.f fCheck
  by_cases hok : okMan V S P K l = true
  · rw [if_pos hok, if_pos hok, Option.bind_some, Option.bind_some, if_pos rfl, if_pos rfl, encode_at hok]
    rfl
  · rw [if_neg hok, if_neg hok]
    rfl
/-- A manifest's identifier. -/
def idB (V S P K : Int) (l : List ByteArray) : ByteArray := S8 (dsum ([105, 109, 97, 103, 101] ++ (encB V S P K l).data.toList))
theorem ID_at (V S P K : Int) (l : List ByteArray) : A.image_ID.f V S P K l = some (if okMan V S P K l = true then (idB V S P K l, 0) else (⟨#[]⟩, 1)) := by
  unfold A.image_ID.f A.image_Check.f fCheck
  by_cases hok : okMan V S P K l = true
  · obtain ⟨⟨m1, m2, m3, m4, -, m5⟩, hs⟩ := man_facts hok
    have hz := encB_size V S P K l (man_all32 hok)
    have h5 : ByteArray.size ⟨#[105, 109, 97, 103, 101]⟩ = 5 := rfl
    rw [if_pos hok, if_pos hok, Option.bind_some, if_pos rfl, encode_at hok, Option.bind_some, if_pos (by omega)]
    unfold A.digest_Sum.f fSum
    rw [if_pos (by rw [ByteArray.size_append]; omega)]
    simp only [Option.bind_some]
    unfold idB
    congr 3
  · rw [if_neg hok, if_neg hok]
    rfl

/-! ### Verify, Intact -/
/-! ### Same, Few -/
def fewB (l : List ByteArray) : Bool := decide (l.length ≤ 70) && l.all fun s => decide (s.size ≤ 100)
theorem refFew_l (V S P K : Int) (l : List ByteArray) (hl : l.length ≤ 1000000) :
    ∀ (j i : Nat), i + j = l.length → hopmeshref46_Few.l0 (j + 1) i V S P K l = some ((l.drop i).all fun s => decide (s.size ≤ 100))
  | 0, i, hi => by
    rw [hopmeshref46_Few.l0, if_neg (by omega), List.drop_eq_nil_of_le (by omega)]
    rfl
  | j + 1, i, hi => by
    have e : wrap64 ((i : Int) + 1) = ((i + 1 : Nat) : Int) := by unfold wrap64; omega
    have hlt : i < l.length := by omega
    have hr : rdOf ByteArray.empty l (i : Int) = l[i] := by
      unfold rdOf
      rw [Int.toNat_natCast, List.getD_eq_getElem?_getD, List.getElem?_eq_getElem hlt]
      rfl
    rw [hopmeshref46_Few.l0, if_pos (by omega), if_pos (by omega), hr, List.drop_eq_getElem_cons hlt, List.all_cons, e, refFew_l V S P K l hl j (i + 1) (by omega)]
    by_cases h : (l[i].size : Int) > 100
    · rw [if_pos h, decide_eq_false (by omega), Bool.false_and]
    · rw [if_neg h, decide_eq_true (by omega), Bool.true_and]
theorem refFew (V S P K : Int) (l : List ByteArray) : hopmeshref46_Few.f 72 V S P K l = some (fewB l) := by
  unfold hopmeshref46_Few.f fewB
  by_cases h : (l.length : Int) > 70
  · rw [if_pos h, decide_eq_false (by omega), Bool.false_and]
  · rw [if_neg h, decide_eq_true (by omega), Bool.true_and]
    have h0 := refFew_l V S P K l (by omega) l.length 0 (by omega)
    have hm : ∀ m, hopmeshref46_Few.l0 (l.length + 1 + m) 0 V S P K l = some (l.all fun s => decide (s.size ≤ 100)) := by
      intro m
      induction m with
      | zero => exact h0
      | succ m ih => exact hopmeshref46_Few.mono_l _ _ _ _ _ _ _ _ ih
    have := hm (71 - l.length)
    rw [show l.length + 1 + (71 - l.length) = 72 by omega] at this
    exact this

/-! ### Decode -/
/-! ### What the printed texts of the laws call -/
def fFew (_ _ _ _ : Int) (l : List ByteArray) : Option Bool := some (fewB l)
theorem uCheck {V S P K : Int} {l : List ByteArray} {r : Int} (h : fCheck V S P K l = some r) : hopmeshref46_Check.f 70 V S P K l = some r := (refCheck' V S P K l (Nat.le_refl 70)).trans h
theorem uFew {V S P K : Int} {l : List ByteArray} {r : Bool} (h : fFew V S P K l = some r) : hopmeshref46_Few.f 72 V S P K l = some r := (refFew V S P K l).trans h
theorem uEncode {V S P K : Int} {l : List ByteArray} {r : ByteArray × Int} (h : A.image_Encode.f V S P K l = some r) : hopmeshref46_Encode.f 80 V S P K l = some r := (refEncode V S P K l (Nat.le_refl 80)).trans h
theorem uID {V S P K : Int} {l : List ByteArray} {r : ByteArray × Int} (h : A.image_ID.f V S P K l = some r) : hopmeshref46_ID.f 80 V S P K l = some r := (refID V S P K l (Nat.le_refl 80)).trans h
end Go.Proofs.Ytnfcohpljgmaiaa.PR
