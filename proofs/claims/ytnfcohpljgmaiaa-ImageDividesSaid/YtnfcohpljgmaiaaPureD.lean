/- ImageDivides: Packets and Span are the reference's, at each manifest, page and packet. -/
import Derived.Test.YtnfcohpljgmaiaaQDx
namespace Go.Proofs.Ytnfcohpljgmaiaa.PD
open Go.RowKit Go.Proofs.Ytnfcohpljgmaiaa.QD Go.Proofs.YtnfcohpljgmaiaaW.PrintWords Go.Proofs.YtnfcohpljgmaiaaW.PrintLast

theorem refsizes (v s k : Int) : hopmeshref46_sizes.f v s k = some (okSizes v s k) := by
  unfold hopmeshref46_sizes.f okSizes
  by_cases h1 : v ≥ 1
  · by_cases h2 : v ≤ 65535
    · by_cases h3 : k ≥ 1
      · by_cases h4 : k ≤ 96
        · by_cases h5 : s ≥ k
          · rw [if_pos h1, if_pos h2, if_pos h3, if_pos h4, if_pos h5, if_neg (by omega)]
            have e : Int.tmod s k = s % k := Int.tmod_eq_emod_of_nonneg (by omega)
            have e2 : Int.tdiv s k = s / k := Int.tdiv_eq_ediv_of_nonneg (by omega)
            rw [e, e2]
            by_cases h6 : s % k = 0
            · by_cases h7 : s ≤ 4096
              · rw [if_pos h6, if_pos h7]
                have h8 : 0 ≤ s / k := Int.ediv_nonneg (by omega) (by omega)
                have h9 : s / k ≤ s := Int.ediv_le_self _ (by omega)
                have e3 : wrap64 (s / k) = s / k := by unfold wrap64; omega
                have e4 : s = s / k * k := by
                  have := Int.ediv_mul_add_emod s k
                  omega
                rw [e3]
                congr 1
                rw [decide_eq_decide]
                constructor
                · intro h
                  refine ⟨by omega, h2, by omega, h4, h5, h7, h6, ?_⟩
                  have := Int.mul_le_mul_of_nonneg_right h (show (0 : Int) ≤ k by omega)
                  omega
                · rintro ⟨-, -, -, -, -, -, -, h⟩
                  exact Int.ediv_le_of_le_mul (by omega) h
              · rw [if_pos h6, if_neg h7, decide_eq_false (by omega)]
            · rw [if_neg h6, decide_eq_false (fun h => h6 h.2.2.2.2.2.2.1)]
          · rw [if_pos h1, if_pos h2, if_pos h3, if_pos h4, if_neg h5, decide_eq_false (by omega)]
        · rw [if_pos h1, if_pos h2, if_pos h3, if_neg h4, decide_eq_false (by omega)]
      · rw [if_pos h1, if_pos h2, if_neg h3, decide_eq_false (by omega)]
    · rw [if_pos h1, if_neg h2, decide_eq_false (by omega)]
  · rw [if_neg h1, decide_eq_false (by omega)]
theorem refparts (n s : Int) (h0 : 0 ≤ n) (h1 : n ≤ 1000000000) (h2 : 1 ≤ s) (h3 : s ≤ 1000000) : hopmeshref46_parts.f n s = some (cnt n s) := count_eq n s h0 h1 h2 h3
theorem refCheck_l (V S P K : Int) (l : List ByteArray) (hl : l.length ≤ 1000000) :
    ∀ (j i : Nat), i + j = l.length → hopmeshref46_Check.l0 (j + 1) i V S P K l = some (if all32 (l.drop i) = true then 0 else 1)
  | 0, i, hi => by
    rw [hopmeshref46_Check.l0, if_neg (by omega), List.drop_eq_nil_of_le (by omega)]
    rfl
  | j + 1, i, hi => by
    have e : wrap64 ((i : Int) + 1) = ((i + 1 : Nat) : Int) := by unfold wrap64; omega
    have hlt : i < l.length := by omega
    have hr : rdOf ByteArray.empty l (i : Int) = l[i] := by
      unfold rdOf
      rw [Int.toNat_natCast, List.getD_eq_getElem?_getD, List.getElem?_eq_getElem hlt]
      rfl
    have ih := refCheck_l V S P K l hl j (i + 1) (by omega)
    have hd : all32 (l.drop i) = (decide (l[i].size = 32) && all32 (l.drop (i + 1))) := by
      rw [List.drop_eq_getElem_cons hlt]
      unfold all32
      rw [List.all_cons]
      rfl
    rw [hopmeshref46_Check.l0, if_pos (by omega), if_pos (by omega), hr, hd]
    by_cases h : l[i].size = 32
    · rw [if_pos (by omega), e, ih, decide_eq_true h, Bool.true_and]
    · rw [if_neg (by omega), decide_eq_false h, Bool.false_and, if_neg (by simp)]
theorem refCheck (V S P K : Int) (l : List ByteArray) (m : Nat) : hopmeshref46_Check.f (70 + m) V S P K l = fCheck V S P K l := by
  have hk : ∀ m, hopmeshref46_Check.f 70 V S P K l = fCheck V S P K l → hopmeshref46_Check.f (70 + m) V S P K l = fCheck V S P K l := by
    intro m h0
    induction m with
    | zero => exact h0
    | succ m ih =>
      unfold fCheck at ih ⊢
      exact hopmeshref46_Check.mono _ _ _ _ _ _ _ ih
  refine hk m ?_
  have hbad : hopmeshref46_Check.j0 70 true V S P K l = some 1 := rfl
  unfold hopmeshref46_Check.f fCheck okMan
  rw [refsizes, Option.bind_some]
  by_cases hok : okSizes V P K = true
  · have hf := okSizes_facts hok
    rw [if_pos hok, hok, Bool.true_and]
    by_cases h1 : S < 1
    · rw [if_pos h1, hbad, decide_eq_false (by omega)]
      rfl
    · by_cases h2 : S > 65536
      · rw [if_neg h1, if_pos h2, hbad, decide_eq_false (by omega)]
        rfl
      · by_cases h3 : (l.length : Int) > 64
        · rw [if_neg h1, if_neg h2, if_pos h3, hbad, decide_eq_false (by omega)]
          rfl
        · rw [if_neg h1, if_neg h2, if_neg h3, refparts _ _ (by omega) (by omega) (by omega) (by omega), Option.bind_some]
          by_cases h4 : (l.length : Int) = cnt S P
          · have hb : ((l.length : Int) != cnt S P) = false := by simpa using h4
            rw [hb, decide_eq_true (by omega), Bool.true_and, hopmeshref46_Check.j0, if_neg (by simp)]
            have h := refCheck_l V S P K l (by omega) l.length 0 (by omega)
            have hm : ∀ m, hopmeshref46_Check.l0 (l.length + 1 + m) 0 V S P K l = some (if all32 l = true then 0 else 1) := by
              intro m
              induction m with
              | zero => exact h
              | succ m ih => exact (hopmeshref46_Check.mono_l _).2 _ _ _ _ _ _ _ ih
            have := hm (68 - l.length)
            rw [show l.length + 1 + (68 - l.length) = 69 by omega] at this
            exact this
          · have hb : ((l.length : Int) != cnt S P) = true := by simpa using h4
            rw [hb, hbad, decide_eq_false (by omega)]
            rfl
  · rw [if_neg hok, hbad, Bool.eq_false_iff.2 hok]
    rfl

theorem few_l (V S P K : Int) (l : List ByteArray) (hl : l.length ≤ 1000000) :
    ∀ (j i : Nat), i + j = l.length → ∃ b, hopmeshref46_Few.l0 (j + 1) i V S P K l = some b
  | 0, i, hi => ⟨true, by rw [hopmeshref46_Few.l0, if_neg (by omega)]⟩
  | j + 1, i, hi => by
    have e : wrap64 ((i : Int) + 1) = ((i + 1 : Nat) : Int) := by unfold wrap64; omega
    rw [hopmeshref46_Few.l0, if_pos (by omega), if_pos (by omega), e]
    split
    · exact ⟨_, rfl⟩
    · exact few_l V S P K l hl j (i + 1) (by omega)
theorem few_some (V S P K : Int) (l : List ByteArray) : ∃ b, hopmeshref46_Few.f 72 V S P K l = some b := by
  unfold hopmeshref46_Few.f
  split
  · exact ⟨_, rfl⟩
  · obtain ⟨b, h⟩ := few_l V S P K l (by omega) l.length 0 (by omega)
    have hm : ∀ m, hopmeshref46_Few.l0 (l.length + 1 + m) 0 V S P K l = some b := by
      intro m
      induction m with
      | zero => exact h
      | succ m ih => exact hopmeshref46_Few.mono_l _ _ _ _ _ _ _ _ ih
    have := hm (71 - l.length)
    rw [show l.length + 1 + (71 - l.length) = 72 by omega] at this
    exact ⟨b, this⟩
theorem refPackets (V S P K : Int) (l : List ByteArray) (i : Int) : hopmeshref46_Packets.f 71 V S P K l i = image_Packets.f V S P K l i := by
  unfold hopmeshref46_Packets.f image_Packets.f A.image_Packets.f A.image_page.f A.image_Check.f
  rw [show (71 : Nat) = 70 + 1 from rfl, refCheck]
  unfold fCheck
  by_cases hok : okMan V S P K l = true
  · rw [if_pos hok]
    simp only [Option.bind_some, if_true]
    by_cases h1 : i < 0
    · rw [if_pos h1, if_pos h1]
      rfl
    · rw [if_neg h1, if_neg h1]
      by_cases h2 : i ≥ (l.length : Int)
      · rw [if_pos h2, decide_eq_true h2]
        rfl
      · rw [if_neg h2, decide_eq_false h2]
        rfl
  · rw [if_neg hok]
    rfl
theorem refSpan (V S P K : Int) (l : List ByteArray) (i j : Int) : hopmeshref46_Span.f 71 V S P K l i j = image_Span.f V S P K l i j := by
  unfold hopmeshref46_Span.f image_Span.f A.image_Span.f
  rw [refPackets]
  rfl
theorem packets_some (V S P K : Int) (l : List ByteArray) (i : Int) : ∃ r, image_Packets.f V S P K l i = some r := by
  unfold image_Packets.f A.image_Packets.f A.image_page.f A.image_Check.f fCheck
  by_cases hok : okMan V S P K l = true
  · have hf : okSizes V P K = true := by
      unfold okMan at hok
      simp only [Bool.and_eq_true] at hok
      exact hok.1.1
    have hk := okSizes_facts hf
    rw [if_pos hok]
    simp only [Option.bind_some, if_true]
    by_cases h1 : i < 0
    · rw [if_pos h1]
      exact ⟨_, rfl⟩
    · rw [if_neg h1]
      by_cases h2 : i ≥ (l.length : Int)
      · rw [if_pos h2]
        exact ⟨_, rfl⟩
      · rw [if_neg h2]
        unfold A.image_size.f A.image_count.f
        simp only [Option.bind_some, if_true]
        rw [if_neg (by omega)]
        exact ⟨_, rfl⟩
  · rw [if_neg hok]
    exact ⟨_, rfl⟩
theorem span_some (V S P K : Int) (l : List ByteArray) (i j : Int) : ∃ r, image_Span.f V S P K l i j = some r := by
  obtain ⟨r, h⟩ := packets_some V S P K l i
  unfold image_Packets.f at h
  unfold image_Span.f A.image_Span.f
  rw [h, Option.bind_some]
  unfold A.image_size.f
  split
  · split
    · exact ⟨_, rfl⟩
    · split <;> exact ⟨_, rfl⟩
  · exact ⟨_, rfl⟩
theorem divides (V S P K : Int) (l : List ByteArray) (i j : Int) : hopmeshlaw46_ImageDivides.f 72 V S P K l i j = some true := by
  have hyes : hopmeshlaw46_ImageDivides.j0 72 i j true V S P K l = some true := rfl
  have hno : hopmeshlaw46_ImageDivides.j0 72 i j false V S P K l = some true := by
    obtain ⟨r, hr⟩ := packets_some V S P K l i
    obtain ⟨q, hq⟩ := span_some V S P K l i j
    rw [hopmeshlaw46_ImageDivides.j0, if_neg (by simp), refPackets, refSpan, hr, hq]
    simp
  obtain ⟨b, hb⟩ := few_some V S P K l
  unfold hopmeshlaw46_ImageDivides.f
  show (some true).bind _ = _
  rw [Option.bind_some, if_pos rfl, hb, Option.bind_some]
  cases b
  · exact hyes
  · exact hno

end Go.Proofs.Ytnfcohpljgmaiaa.PD
