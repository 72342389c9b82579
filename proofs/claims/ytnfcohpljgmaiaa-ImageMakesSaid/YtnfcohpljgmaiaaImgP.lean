/- The reference's functions, in plain words. -/
import Derived.Test.YtnfcohpljgmaiaaQx2
import Derived.Test.YtnfcohpljgmaiaaQx3
namespace Go.Proofs.Ytnfcohpljgmaiaa.Pure
open Go.RowKit Go.Proofs.Ytnfcohpljgmaiaa.Q Go.Proofs.YtnfcohpljgmaiaaW.PrintWords Go.Proofs.YtnfcohpljgmaiaaW.PrintLast

theorem refsizes (v s k : Int) : hopmeshref46_sizes.f v s k = some (okSizes v s k) := by
  unfold hopmeshref46_sizes.f okSizes
  by_cases h1 : v ≥ 1
  · by_cases h2 : v ≤ 65535
    · by_cases h3 : k ≥ 1
      · by_cases h4 : k ≤ 96
        · by_cases h5 : s ≥ k
          · rw [if_pos h1, if_pos h2, if_pos h3, if_pos h4, if_pos h5, if_neg (by omega)]
            have e : Int.tmod s k = s % k := Int.tmod_eq_emod_of_nonneg (by omega)
            have e2 : Int.tdiv s k = s / k := Int.tdiv_eq_ediv_of_nonneg (by omega)
            rw [e, e2]
            by_cases h6 : s % k = 0
            · by_cases h7 : s ≤ 4096
              · rw [if_pos h6, if_pos h7]
                have h8 : 0 ≤ s / k := Int.ediv_nonneg (by omega) (by omega)
                have h9 : s / k ≤ s := Int.ediv_le_self _ (by omega)
                have e3 : wrap64 (s / k) = s / k := by unfold wrap64; omega
                have e4 : s = s / k * k := by
                  have := Int.ediv_mul_add_emod s k
                  omega
                rw [e3]
                congr 1
                rw [decide_eq_decide]
                constructor
                · intro h
                  refine ⟨by omega, h2, by omega, h4, h5, h7, h6, ?_⟩
                  have := Int.mul_le_mul_of_nonneg_right h (show (0 : Int) ≤ k by omega)
                  omega
                · rintro ⟨-, -, -, -, -, -, -, h⟩
                  exact Int.ediv_le_of_le_mul (by omega) h
              · rw [if_pos h6, if_neg h7, decide_eq_false (by omega)]
            · rw [if_neg h6, decide_eq_false (fun h => h6 h.2.2.2.2.2.2.1)]
          · rw [if_pos h1, if_pos h2, if_pos h3, if_pos h4, if_neg h5, decide_eq_false (by omega)]
        · rw [if_pos h1, if_pos h2, if_pos h3, if_neg h4, decide_eq_false (by omega)]
      · rw [if_pos h1, if_pos h2, if_neg h3, decide_eq_false (by omega)]
    · rw [if_pos h1, if_neg h2, decide_eq_false (by omega)]
  · rw [if_neg h1, decide_eq_false (by omega)]
theorem refparts (n s : Int) (h0 : 0 ≤ n) (h1 : n ≤ 1000000000) (h2 : 1 ≤ s) (h3 : s ≤ 1000000) : hopmeshref46_parts.f n s = some (cnt n s) := count_eq n s h0 h1 h2 h3
theorem refpage (d : ByteArray) (i : Nat) (s : Int) (hs : 1 ≤ s) (hs2 : s ≤ 1000000) (hd : (d.size : Int) ≤ 1000000000) (hi : (i : Int) * s < d.size) : hopmeshref46_page.f d i s = some (pg d s i) := by
  have h1 : (i : Int) ≤ (i : Int) * s := by
    have := Int.mul_le_mul_of_nonneg_left hs (show (0 : Int) ≤ i by omega)
    omega
  have e0 : ((i : Int) + 1) * s = (i : Int) * s + s := by rw [Int.add_mul, Int.one_mul]
  have e1 : wrap64 ((i : Int) * s) = (i : Int) * s := by unfold wrap64; omega
  have e2 : wrap64 ((i : Int) + 1) = (i : Int) + 1 := by unfold wrap64; omega
  have e3 : wrap64 (((i : Int) + 1) * s) = (i : Int) * s + s := by rw [e0]; unfold wrap64; omega
  have e4 : mn ((i : Int) * s + s) (d.size : Int) = min ((i : Int) * s + s) (d.size : Int) := by
    unfold mn
    omega
  unfold hopmeshref46_page.f pg
  rw [e1, e2, e3, e4, if_pos (by omega), if_pos (by omega), if_pos (by omega)]
theorem shr0 (x y : Int) (h : y ≤ 64) : shr .i64 x y = x / 2 ^ y.toNat := by
  unfold shr
  rw [Nat.min_eq_left (by show y.toNat ≤ 64; omega)]
theorem refbytes2 (k : Nat) (x : Int) : hopmeshref46_bytes.f (k + 4) x 2 = some ⟨(be x 2).toArray⟩ := by
  have e1 : wrap64 (2 - 1) = 1 := by decide +kernel
  have e2 : wrap64 (8 * 1) = 8 := by decide +kernel
  have e3 : wrap64 (1 - 1) = 0 := by decide +kernel
  have e4 : wrap64 (8 * 0) = 0 := by decide +kernel
  have e5 : wrap64 (0 - 1) = -1 := by decide +kernel
  unfold hopmeshref46_bytes.f
  rw [e1, hopmeshref46_bytes.l0, if_pos (by omega), e2, if_pos (by omega), if_pos (by simp), e3, hopmeshref46_bytes.l0, if_pos (by omega), e4, if_pos (by omega), if_pos (by simp), e5, hopmeshref46_bytes.l0, if_neg (by omega), shr0 _ _ (by omega), shr0 _ _ (by omega)]
  rfl
theorem refDigest (k : Nat) (v : Int) (i : Nat) (p : ByteArray) (hv : (Lit.int .i64 v).wf = true) (hi : (Lit.int .i64 (i : Int)).wf = true) (hp : p.size ≤ 1000000) : hopmeshref46_Digest.f (k + 4) v i p = some (psum v i p) := by
  unfold hopmeshref46_Digest.f
  rw [refbytes2, refbytes2]
  have h2 : ∀ x : Int, ByteArray.size ⟨(be x 2).toArray⟩ = 2 := fun x => rfl
  have h4 : ByteArray.size ⟨#[112, 97, 103, 101]⟩ = 4 := rfl
  simp only [Option.bind_some]
  rw [if_pos (by rw [h2]; omega), if_pos (by rw [ByteArray.size_append, h2, h2, h4]; omega), if_pos (by rw [ByteArray.size_append, ByteArray.size_append, h2, h2, h4]; omega)]
  unfold hopmeshref01_Sum.f fSum
  rw [if_pos (by rw [ByteArray.size_append, ByteArray.size_append, ByteArray.size_append, h2, h2, h4]; omega), psum_val v i p hv hi hp]
  simp only [Option.bind_some]
  congr 3
  simp [ByteArray.data_append, numBytes, numN]
theorem digs_snoc (v : Int) (d : ByteArray) (s : Int) (i : Nat) : digs v d s (List.range (i + 1)) = digs v d s (List.range i) ++ [psum v i (pg d s i)] := by simp [digs, List.range_succ]
theorem digs_len (v : Int) (d : ByteArray) (s : Int) (l : List Nat) : (digs v d s l).length = l.length := by simp [digs]
theorem refMake_l (v : Int) (d : ByteArray) (s kk : Int) (C : Nat) (hv : (Lit.int .i64 v).wf = true) (hs : 1 ≤ s) (hs2 : s ≤ 1000000) (hd : (d.size : Int) ≤ 65538) (hC : cnt d.size s = C) (hC2 : C ≤ 64) :
    ∀ (j i : Nat), i + j = C → hopmeshref46_Make.l0 (j + 6) v d s i v d.size s kk (digs v d s (List.range i)) = some (v, (d.size : Int), s, kk, digs v d s (List.range C), 0)
  | 0, i, hi => by
    obtain rfl : i = C := by omega
    rw [hopmeshref46_Make.l0, refparts _ _ (by omega) (by omega) hs hs2, hC, Option.bind_some, if_neg (by omega)]
  | j + 1, i, hi => by
    have hlt : (i : Int) * s < d.size := by
      have h1 : (i : Int) + 1 ≤ ((d.size : Int) + s - 1) / s := by unfold cnt at hC; omega
      have h2 := Int.mul_le_mul_of_nonneg_right h1 (show (0 : Int) ≤ s by omega)
      have h3 := Int.ediv_mul_le ((d.size : Int) + s - 1) (show s ≠ 0 by omega)
      rw [Int.add_mul] at h2
      omega
    have e : wrap64 ((i : Int) + 1) = ((i + 1 : Nat) : Int) := by unfold wrap64; omega
    rw [hopmeshref46_Make.l0, refparts _ _ (by omega) (by omega) hs hs2, hC, Option.bind_some, if_pos (by omega), refpage d i s hs hs2 (by omega) hlt, Option.bind_some,
      refDigest (j + 2) v i _ hv (Go.WalkArith.wf_i64 ⟨by omega, by omega⟩) (by unfold pg; rw [ByteArray.size_extract]; omega), Option.bind_some, if_pos (by rw [digs_len, List.length_range]; omega), e, ← digs_snoc]
    exact refMake_l v d s kk C hv hs hs2 hd hC hC2 j (i + 1) (by omega)
theorem refMake (v : Int) (d : ByteArray) (s kk : Int) (hd : (d.size : Int) ≤ 65538) : hopmeshref46_Make.f 70 v d s kk = fMake v d s kk := by
  unfold hopmeshref46_Make.f fMake
  rw [refsizes, Option.bind_some]
  by_cases hok : okSizes v s kk = true
  · have hf := okSizes_facts hok
    rw [if_pos hok, if_pos hok]
    by_cases h0 : d.size = 0
    · rw [if_pos h0, if_pos (List.isEmpty_iff.1 (empty_of d h0))]
    · rw [if_neg h0, if_neg (by have := nonempty_of d h0; intro e; rw [e] at this; cases this)]
      by_cases hb : (d.size : Int) > 65536
      · rw [if_pos hb, if_pos (Or.inl hb)]
      · rw [if_neg hb, refparts _ _ (by omega) (by omega) (by omega) (by omega), Option.bind_some]
        by_cases hc : cnt d.size s > 64
        · rw [if_pos hc, if_pos (Or.inr hc)]
        · rw [if_neg hc, if_neg (by omega)]
          have hn : 0 ≤ cnt d.size s := Int.ediv_nonneg (by omega) (by omega)
          obtain ⟨C, hC⟩ : ∃ C : Nat, cnt d.size s = C := ⟨(cnt d.size s).toNat, by omega⟩
          have h := refMake_l v d s kk C (Go.WalkArith.wf_i64 ⟨by omega, by omega⟩) (by omega) (by omega) hd hC (by omega) C 0 (by omega)
          have hm : hopmeshref46_Make.l0 70 v d s 0 v d.size s kk [] = some (v, (d.size : Int), s, kk, digs v d s (List.range C), 0) := by
            have hk : ∀ m, hopmeshref46_Make.l0 (C + 6 + m) v d s 0 v d.size s kk [] = some (v, (d.size : Int), s, kk, digs v d s (List.range C), 0) := by
              intro m
              induction m with
              | zero => exact h
              | succ m ih => exact hopmeshref46_Make.mono_l _ _ _ _ _ _ _ _ _ _ _ ih
            have := hk (64 - C)
            rw [show C + 6 + (64 - C) = 70 by omega] at this
            exact this
          rw [hm, hC]
          rfl
  · rw [if_neg hok, if_neg hok]
theorem same_l (l : List ByteArray) (a b c d a' b' c' d' : Int) (hl : l.length ≤ 1000000) :
    ∀ (j i : Nat), i + j = l.length → hopmeshref46_Same.l0 (j + 1) i a b c d l a' b' c' d' l = some true
  | 0, i, hi => by
    rw [hopmeshref46_Same.l0, if_neg (by omega)]
  | j + 1, i, hi => by
    have e : wrap64 ((i : Int) + 1) = ((i + 1 : Nat) : Int) := by unfold wrap64; omega
    rw [hopmeshref46_Same.l0, if_pos (by omega), if_pos (by omega), if_pos (by omega), if_pos rfl, e]
    exact same_l l a b c d a' b' c' d' hl j (i + 1) (by omega)
theorem same_self (a b c d : Int) (l : List ByteArray) (hl : l.length ≤ 1000000) : hopmeshref46_Same.f (l.length + 2) a b c d l a b c d l = some true := by
  unfold hopmeshref46_Same.f
  rw [if_pos rfl, if_pos rfl, if_pos rfl, if_pos rfl, hopmeshref46_Same.j0, if_neg (by simp)]
  exact same_l l a b c d a b c d hl l.length 0 (by omega)

end Go.Proofs.Ytnfcohpljgmaiaa.Pure
