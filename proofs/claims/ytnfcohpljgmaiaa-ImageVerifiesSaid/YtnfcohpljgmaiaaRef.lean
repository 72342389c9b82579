/- The reference's functions of the image's layer, in plain words: each is the program's own. -/
import Derived.Test.YtnfcohpljgmaiaaRx0
import Derived.Test.YtnfcohpljgmaiaaRx1
import Derived.Test.YtnfcohpljgmaiaaRx2
import Derived.Test.YtnfcohpljgmaiaaRx3
import Derived.Test.YtnfcohpljgmaiaaRx4
import Derived.Test.YtnfcohpljgmaiaaRx5
import Derived.Test.YtnfcohpljgmaiaaRx6
import Derived.Test.YtnfcohpljgmaiaaRx7
import Derived.Test.YtnfcohpljgmaiaaRx8
import Derived.Test.YtnfcohpljgmaiaaRx9
import Derived.Test.YtnfcohpljgmaiaaRx10
import Derived.Test.YtnfcohpljgmaiaaRx11
import Derived.Test.YtnfcohpljgmaiaaRx12
import Derived.Test.YtnfcohpljgmaiaaImgX
import Derived.Test.YtnfcohpljgmaiaaImgE
namespace Go.Proofs.Ytnfcohpljgmaiaa.PR
open Go.RowKit Go.Proofs.Ytnfcohpljgmaiaa.R Go.Proofs.YtnfcohpljgmaiaaW.PrintWords Go.Proofs.YtnfcohpljgmaiaaW.PrintLast

theorem eq_of_toList {x y : ByteArray} (h : x.toList = y.toList) : x = y := by
  rw [Lib.toList_data, Lib.toList_data] at h
  apply ByteArray.ext
  exact Array.toList_inj.1 h
theorem refsizes (v s k : Int) : hopmeshref46_sizes.f v s k = some (okSizes v s k) := by
  unfold hopmeshref46_sizes.f okSizes
  by_cases h1 : v ≥ 1
  · by_cases h2 : v ≤ 65535
    · by_cases h3 : k ≥ 1
      · by_cases h4 : k ≤ 96
        · by_cases h5 : s ≥ k
          · rw [if_pos h1, if_pos h2, if_pos h3, if_pos h4, if_pos h5, if_neg (by omega)]
            have e : Int.tmod s k = s % k := Int.tmod_eq_emod_of_nonneg (by omega)
            have e2 : Int.tdiv s k = s / k := Int.tdiv_eq_ediv_of_nonneg (by omega)
            rw [e, e2]
            by_cases h6 : s % k = 0
            · by_cases h7 : s ≤ 4096
              · rw [if_pos h6, if_pos h7]
                have h8 : 0 ≤ s / k := Int.ediv_nonneg (by omega) (by omega)
                have h9 : s / k ≤ s := Int.ediv_le_self _ (by omega)
                have e3 : wrap64 (s / k) = s / k := by unfold wrap64; omega
                have e4 : s = s / k * k := by
                  have := Int.ediv_mul_add_emod s k
                  omega
                rw [e3]
                congr 1
                rw [decide_eq_decide]
                constructor
                · intro h
                  refine ⟨by omega, h2, by omega, h4, h5, h7, h6, ?_⟩
                  have := Int.mul_le_mul_of_nonneg_right h (show (0 : Int) ≤ k by omega)
                  omega
                · rintro ⟨-, -, -, -, -, -, -, h⟩
                  exact Int.ediv_le_of_le_mul (by omega) h
              · rw [if_pos h6, if_neg h7, decide_eq_false (by omega)]
            · rw [if_neg h6, decide_eq_false (fun h => h6 h.2.2.2.2.2.2.1)]
          · rw [if_pos h1, if_pos h2, if_pos h3, if_pos h4, if_neg h5, decide_eq_false (by omega)]
        · rw [if_pos h1, if_pos h2, if_pos h3, if_neg h4, decide_eq_false (by omega)]
      · rw [if_pos h1, if_pos h2, if_neg h3, decide_eq_false (by omega)]
    · rw [if_pos h1, if_neg h2, decide_eq_false (by omega)]
  · rw [if_neg h1, decide_eq_false (by omega)]
theorem refparts (n s : Int) (h0 : 0 ≤ n) (h1 : n ≤ 1000000000) (h2 : 1 ≤ s) (h3 : s ≤ 1000000) : hopmeshref46_parts.f n s = some (cnt n s) := count_eq n s h0 h1 h2 h3
theorem refCheck_l (V S P K : Int) (l : List ByteArray) (hl : l.length ≤ 1000000) :
    ∀ (j i : Nat), i + j = l.length → hopmeshref46_Check.l0 (j + 1) i V S P K l = some (if all32 (l.drop i) = true then 0 else 1)
  | 0, i, hi => by
    rw [hopmeshref46_Check.l0, if_neg (by omega), List.drop_eq_nil_of_le (by omega)]
    rfl
  | j + 1, i, hi => by
    have e : wrap64 ((i : Int) + 1) = ((i + 1 : Nat) : Int) := by unfold wrap64; omega
    have hlt : i < l.length := by omega
    have hr : rdOf ByteArray.empty l (i : Int) = l[i] := by
      unfold rdOf
      rw [Int.toNat_natCast, List.getD_eq_getElem?_getD, List.getElem?_eq_getElem hlt]
      rfl
    have ih := refCheck_l V S P K l hl j (i + 1) (by omega)
    have hd : all32 (l.drop i) = (decide (l[i].size = 32) && all32 (l.drop (i + 1))) := by
      rw [List.drop_eq_getElem_cons hlt]
      unfold all32
      rw [List.all_cons]
      rfl
    rw [hopmeshref46_Check.l0, if_pos (by omega), if_pos (by omega), hr, hd]
    by_cases h : l[i].size = 32
    · rw [if_pos (by omega), e, ih, decide_eq_true h, Bool.true_and]
    · rw [if_neg (by omega), decide_eq_false h, Bool.false_and, if_neg (by simp)]
theorem refCheck (V S P K : Int) (l : List ByteArray) (m : Nat) : hopmeshref46_Check.f (70 + m) V S P K l = fCheck V S P K l := by
  have hk : ∀ m, hopmeshref46_Check.f 70 V S P K l = fCheck V S P K l → hopmeshref46_Check.f (70 + m) V S P K l = fCheck V S P K l := by
    intro m h0
    induction m with
    | zero => exact h0
    | succ m ih =>
      unfold fCheck at ih ⊢
      exact hopmeshref46_Check.mono _ _ _ _ _ _ _ ih
  refine hk m ?_
  have hbad : hopmeshref46_Check.j0 70 true V S P K l = some 1 := rfl
  unfold hopmeshref46_Check.f fCheck okMan
  rw [refsizes, Option.bind_some]
  by_cases hok : okSizes V P K = true
  · have hf := okSizes_facts hok
    rw [if_pos hok, hok, Bool.true_and]
    by_cases h1 : S < 1
    · rw [if_pos h1, hbad, decide_eq_false (by omega)]
      rfl
    · by_cases h2 : S > 65536
      · rw [if_neg h1, if_pos h2, hbad, decide_eq_false (by omega)]
        rfl
      · by_cases h3 : (l.length : Int) > 64
        · rw [if_neg h1, if_neg h2, if_pos h3, hbad, decide_eq_false (by omega)]
          rfl
        · rw [if_neg h1, if_neg h2, if_neg h3, refparts _ _ (by omega) (by omega) (by omega) (by omega), Option.bind_some]
          by_cases h4 : (l.length : Int) = cnt S P
          · have hb : ((l.length : Int) != cnt S P) = false := by simpa using h4
            rw [hb, decide_eq_true (by omega), Bool.true_and, hopmeshref46_Check.j0, if_neg (by simp)]
            have h := refCheck_l V S P K l (by omega) l.length 0 (by omega)
            have hm : ∀ m, hopmeshref46_Check.l0 (l.length + 1 + m) 0 V S P K l = some (if all32 l = true then 0 else 1) := by
              intro m
              induction m with
              | zero => exact h
              | succ m ih => exact (hopmeshref46_Check.mono_l _).2 _ _ _ _ _ _ _ ih
            have := hm (68 - l.length)
            rw [show l.length + 1 + (68 - l.length) = 69 by omega] at this
            exact this
          · have hb : ((l.length : Int) != cnt S P) = true := by simpa using h4
            rw [hb, hbad, decide_eq_false (by omega)]
            rfl
  · rw [if_neg hok, hbad, Bool.eq_false_iff.2 hok]
    rfl


/-- The size of page i, and its number of packets. -/
def psz (S P : Int) (i : Int) : Int := min P (S - i * P)
theorem man_facts {V S P K : Int} {l : List ByteArray} (hok : okMan V S P K l = true) : (1 ≤ K ∧ K ≤ 96 ∧ K ≤ P ∧ P ≤ 4096 ∧ P % K = 0 ∧ P ≤ 64 * K) ∧ (1 ≤ S ∧ S ≤ 65536 ∧ l.length ≤ 64 ∧ (l.length : Int) = cnt S P) := by
  unfold okMan at hok
  simp only [Bool.and_eq_true, decide_eq_true_eq] at hok
  have hf := okSizes_facts hok.1.1
  exact ⟨⟨by omega, by omega, by omega, by omega, hf.2.2.2.2.2.2.1, hf.2.2.2.2.2.2.2⟩, hok.1.2⟩
theorem page_in {V S P K : Int} {l : List ByteArray} (hok : okMan V S P K l = true) (i : Int) (h0 : 0 ≤ i) (h1 : i < l.length) : 0 ≤ i * P ∧ i * P < S := by
  obtain ⟨⟨m1, m2, m3, m4, -, m5⟩, hs⟩ := man_facts hok
  have h2 : i + 1 ≤ (S + P - 1) / P := by
    have := hs.2.2.2
    unfold cnt at this
    omega
  have h3 := Int.mul_le_mul_of_nonneg_right h2 (show (0 : Int) ≤ P by omega)
  have h4 := Int.ediv_mul_le (S + P - 1) (show P ≠ 0 by omega)
  rw [Int.add_mul] at h3
  exact ⟨Int.mul_nonneg h0 (by omega), by omega⟩
theorem size_at (V S P K : Int) (l : List ByteArray) (hok : okMan V S P K l = true) (i : Int) (h0 : 0 ≤ i) (h1 : i < l.length) : A.image_size.f V S P K l i = some (psz S P i) := by
  obtain ⟨⟨m1, m2, m3, m4, -, m5⟩, hs⟩ := man_facts hok
  obtain ⟨p0, p1⟩ := page_in hok i h0 h1
  have e1 : wrap64 (i * P) = i * P := by unfold wrap64; omega
  have e2 : wrap64 (S - i * P) = S - i * P := by unfold wrap64; omega
  unfold A.image_size.f psz mn
  rw [e1, e2]
  congr 1
  omega
theorem refCheck' (V S P K : Int) (l : List ByteArray) {k : Nat} (hk : 70 ≤ k) : hopmeshref46_Check.f k V S P K l = fCheck V S P K l := by
  obtain ⟨m, rfl⟩ := Nat.exists_eq_add_of_le hk
  exact refCheck V S P K l m
theorem refPackets (V S P K : Int) (l : List ByteArray) (i : Int) {k : Nat} (hk : 71 ≤ k) : hopmeshref46_Packets.f k V S P K l i = A.image_Packets.f V S P K l i := by
  unfold hopmeshref46_Packets.f A.image_Packets.f A.image_page.f A.image_Check.f
  rw [refCheck' V S P K l (show 70 ≤ k by omega)]
  obtain ⟨k, rfl⟩ : ∃ m, k = m + 1 := ⟨k - 1, by omega⟩
  unfold fCheck
  by_cases hok : okMan V S P K l = true
  · rw [if_pos hok]
    simp only [Option.bind_some, if_true]
    by_cases h1 : i < 0
    · rw [if_pos h1, if_pos h1]
      rfl
    · rw [if_neg h1, if_neg h1]
      by_cases h2 : i ≥ (l.length : Int)
      · rw [if_pos h2, decide_eq_true h2]
        rfl
      · rw [if_neg h2, decide_eq_false h2]
        rfl
  · rw [if_neg hok]
    rfl
theorem refpage (d : ByteArray) (i : Nat) (s : Int) (hs : 1 ≤ s) (hs2 : s ≤ 1000000) (hd : (d.size : Int) ≤ 1000000000) (hi : (i : Int) * s < d.size) : hopmeshref46_page.f d i s = some (pg d s i) := by
  have h1 : (i : Int) ≤ (i : Int) * s := by
    have := Int.mul_le_mul_of_nonneg_left hs (show (0 : Int) ≤ i by omega)
    omega
  have e0 : ((i : Int) + 1) * s = (i : Int) * s + s := by rw [Int.add_mul, Int.one_mul]
  have e1 : wrap64 ((i : Int) * s) = (i : Int) * s := by unfold wrap64; omega
  have e2 : wrap64 ((i : Int) + 1) = (i : Int) + 1 := by unfold wrap64; omega
  have e3 : wrap64 (((i : Int) + 1) * s) = (i : Int) * s + s := by rw [e0]; unfold wrap64; omega
  have e4 : mn ((i : Int) * s + s) (d.size : Int) = min ((i : Int) * s + s) (d.size : Int) := by
    unfold mn
    omega
  unfold hopmeshref46_page.f pg
  rw [e1, e2, e3, e4, if_pos (by omega), if_pos (by omega), if_pos (by omega)]
theorem shr0 (x y : Int) (h : y ≤ 64) : shr .i64 x y = x / 2 ^ y.toNat := by
  unfold shr
  rw [Nat.min_eq_left (by show y.toNat ≤ 64; omega)]
theorem refbytes2 (k : Nat) (x : Int) : hopmeshref46_bytes.f (k + 4) x 2 = some ⟨(be x 2).toArray⟩ := by
  have e1 : wrap64 (2 - 1) = 1 := by decide +kernel
  have e2 : wrap64 (8 * 1) = 8 := by decide +kernel
  have e3 : wrap64 (1 - 1) = 0 := by decide +kernel
  have e4 : wrap64 (8 * 0) = 0 := by decide +kernel
  have e5 : wrap64 (0 - 1) = -1 := by decide +kernel
  unfold hopmeshref46_bytes.f
  rw [e1, hopmeshref46_bytes.l0, if_pos (by omega), e2, if_pos (by omega), if_pos (by simp), e3, hopmeshref46_bytes.l0, if_pos (by omega), e4, if_pos (by omega), if_pos (by simp), e5, hopmeshref46_bytes.l0, if_neg (by omega), shr0 _ _ (by omega), shr0 _ _ (by omega)]
  rfl
theorem refDigest (k : Nat) (v : Int) (i : Nat) (p : ByteArray) (hv : (Lit.int .i64 v).wf = true) (hi : (Lit.int .i64 (i : Int)).wf = true) (hp : p.size ≤ 1000000) : hopmeshref46_Digest.f (k + 4) v i p = some (psum v i p) := by
  unfold hopmeshref46_Digest.f
  rw [refbytes2, refbytes2]
  have h2 : ∀ x : Int, ByteArray.size ⟨(be x 2).toArray⟩ = 2 := fun x => rfl
  have h4 : ByteArray.size ⟨#[112, 97, 103, 101]⟩ = 4 := rfl
  simp only [Option.bind_some]
  rw [if_pos (by rw [h2]; omega), if_pos (by rw [ByteArray.size_append, h2, h2, h4]; omega), if_pos (by rw [ByteArray.size_append, ByteArray.size_append, h2, h2, h4]; omega)]
  unfold hopmeshref01_Sum.f fSum
  rw [if_pos (by rw [ByteArray.size_append, ByteArray.size_append, ByteArray.size_append, h2, h2, h4]; omega), psum_val v i p hv hi hp]
  simp only [Option.bind_some]
  congr 3
  simp [ByteArray.data_append, numBytes, numN]

/-! ### Encode, ID -/
/-! ### Verify, Intact -/
theorem refVerify (V S P K : Int) (l : List ByteArray) (i : Int) (d : ByteArray) {k : Nat} (hk : 71 ≤ k) : hopmeshref46_Verify.f k V S P K l i d = A.image_Verify.f V S P K l i d := by
  unfold hopmeshref46_Verify.f A.image_Verify.f A.image_page.f A.image_Check.f
  rw [refPackets V S P K l i hk]
  unfold A.image_Packets.f A.image_page.f A.image_Check.f fCheck
  by_cases hok : okMan V S P K l = true
  · obtain ⟨⟨m1, m2, m3, m4, -, m5⟩, hs⟩ := man_facts hok
    have hv : 1 ≤ V ∧ V ≤ 65535 := by
      unfold okMan at hok
      simp only [Bool.and_eq_true] at hok
      have := okSizes_facts hok.1.1
      omega
    rw [if_pos hok]
    simp only [Option.bind_some, if_true]
    by_cases h1 : i < 0
    · rw [if_pos h1]
      rfl
    · rw [if_neg h1]
      by_cases h2 : i ≥ (l.length : Int)
      · rw [if_pos h2]
        rfl
      · rw [if_neg h2]
        simp only [Option.bind_some, if_true]
        have hz := size_at V S P K l hok i (by omega) (by omega)
        have hlen : hopmeshref46_length.f V S P K l i = A.image_size.f V S P K l i := rfl
        obtain ⟨p0, p1⟩ := page_in hok i (by omega) (by omega)
        have hp : 1 ≤ psz S P i ∧ psz S P i ≤ 4096 := by unfold psz; omega
        have hc : A.image_count.f (psz S P i) K = some (cnt (psz S P i) K) := count_eq _ _ (by omega) (by omega) (by omega) (by omega)
        rw [hlen, hz]
        simp only [Option.bind_some]
        rw [hc]
        simp only [Option.bind_some, if_true]
        by_cases h3 : (d.size : Int) = psz S P i
        · rw [if_pos h3, if_pos h3]
          obtain ⟨n, rfl⟩ := Int.eq_ofNat_of_zero_le (show 0 ≤ i by omega)
          obtain ⟨k, rfl⟩ : ∃ m, k = m + 4 := ⟨k - 4, by omega⟩
          have h4 := psum_some V n d (Go.WalkArith.wf_i64 ⟨by omega, by omega⟩) (Go.WalkArith.wf_i64 ⟨by omega, by omega⟩) (by omega)
          have h5 : A.image_sum.f V (n : Int) d = B.image_sum.f V (n : Int) d := rfl
          rw [refDigest k V n d (Go.WalkArith.wf_i64 ⟨by omega, by omega⟩) (Go.WalkArith.wf_i64 ⟨by omega, by omega⟩) (by omega), h5, h4]
        · rw [if_neg h3, if_neg h3]
  · rw [if_neg hok]
    rfl
/-- A page's check, in plain words. -/
theorem Verify_at (V S P K : Int) (l : List ByteArray) (hok : okMan V S P K l = true) (i : Nat) (h1 : i < l.length) (d : ByteArray) :
    A.image_Verify.f V S P K l i d = some (if (d.size : Int) = psz S P i then (if psum V i d = strAt l i then 0 else 20) else 11) := by
  obtain ⟨⟨m1, m2, m3, m4, -, m5⟩, hs⟩ := man_facts hok
  have hv : 1 ≤ V ∧ V ≤ 65535 := by
    unfold okMan at hok
    simp only [Bool.and_eq_true] at hok
    have := okSizes_facts hok.1.1
    omega
  obtain ⟨p0, p1⟩ := page_in hok i (by omega) (by omega)
  have hp : 1 ≤ psz S P i ∧ psz S P i ≤ 4096 := by unfold psz; omega
  unfold A.image_Verify.f A.image_page.f A.image_Check.f fCheck
  rw [if_pos hok]
  simp only [Option.bind_some, if_true]
  rw [if_neg (by omega), if_neg (by omega)]
  simp only [Option.bind_some, if_true]
  rw [size_at V S P K l hok i (by omega) (by omega), Option.bind_some]
  by_cases h3 : (d.size : Int) = psz S P i
  · rw [if_pos h3, if_pos h3]
    have h4 := psum_some V i d (Go.WalkArith.wf_i64 ⟨by omega, by omega⟩) (Go.WalkArith.wf_i64 ⟨by omega, by omega⟩) (by omega)
    have h5 : A.image_sum.f V (i : Int) d = B.image_sum.f V (i : Int) d := rfl
    have hr : rdOf ByteArray.empty l (i : Int) = strAt l i := by
      unfold rdOf strAt
      rw [Int.toNat_natCast]
      rfl
    rw [h5, h4]
    simp only [Option.bind_some]
    rw [if_pos (by omega), if_pos (by omega), hr]
    by_cases h6 : psum V i d = strAt l i
    · rw [if_pos h6, if_pos (by rw [h6])]
    · rw [if_neg h6, if_neg (fun e => h6 (eq_of_toList e))]
  · rw [if_neg h3, if_neg h3]
theorem pg_size {V S P K : Int} {l : List ByteArray} (hok : okMan V S P K l = true) (d : ByteArray) (hd : (d.size : Int) = S) (i : Nat) (h1 : i < l.length) : ((pg d P i).size : Int) = psz S P i := by
  obtain ⟨⟨m1, m2, m3, m4, -, m5⟩, hs⟩ := man_facts hok
  obtain ⟨p0, p1⟩ := page_in hok i (by omega) (by omega)
  unfold pg psz
  rw [ByteArray.size_extract]
  omega
theorem pageOk_iff (V P : Int) (d : ByteArray) (l : List ByteArray) (i : Nat) : pageOk V P d l i = true ↔ psum V i (pg d P i) = strAt l i := by
  unfold pageOk
  rw [beq_iff_eq]
  exact ⟨eq_of_toList, fun h => by rw [h]⟩
theorem rI0 (V S P K : Int) (l : List ByteArray) (d : ByteArray) (i k : Nat) (hi : i = l.length) : hopmeshref46_Intact.l0 (k + 1) d i V S P K l = some 0 := by
    rw [hopmeshref46_Intact.l0, if_neg (by omega)]
theorem rI1 (V S P K : Int) (l : List ByteArray) (d : ByteArray) (hok : okMan V S P K l = true) (hd : (d.size : Int) = S) (i k : Nat) (hk : 71 ≤ k) (hi : i < l.length) : hopmeshref46_Intact.l0 (k + 1) d i V S P K l = if psum V i (pg d P i) = strAt l i then hopmeshref46_Intact.l0 k d ((i + 1 : Nat) : Int) V S P K l else some 20 := by
    obtain ⟨⟨m1, m2, m3, m4, -, m5⟩, hs⟩ := man_facts hok
    obtain ⟨p0, p1⟩ := page_in hok i (by omega) (by omega)
    have e : wrap64 ((i : Int) + 1) = ((i + 1 : Nat) : Int) := by unfold wrap64; omega
    have hc : (i : Int) < (l.length : Int) := Int.ofNat_lt.2 hi
    rw [hopmeshref46_Intact.l0, if_pos hc, refpage d i P (by omega) (by omega) (by omega) (by omega), Option.bind_some, refVerify V S P K l i _ hk, Verify_at V S P K l hok i (by omega), Option.bind_some, if_pos (pg_size hok d hd i (by omega)), e]
    by_cases h6 : psum V i (pg d P i) = strAt l i
    · rw [if_pos h6, if_pos rfl, if_pos h6]
    · rw [if_neg h6, if_neg (by omega), if_neg h6]
theorem rI2 (V S P K : Int) (l : List ByteArray) (d : ByteArray) (hok : okMan V S P K l = true) (hd : (d.size : Int) = S) :
    ∀ (j i k : Nat), i + j = l.length → j + 71 ≤ k → hopmeshref46_Intact.l0 (k + 1) d i V S P K l = some (if ((List.range' i j).all (pageOk V P d l)) = true then 0 else 20)
  | 0, i, k, hi, _ => rI0 V S P K l d i k hi
  | j + 1, i, k, hi, hk => by
    obtain ⟨k, rfl⟩ : ∃ m, k = m + 1 := ⟨k - 1, by omega⟩
    rw [rI1 V S P K l d hok hd i (k + 1) (by omega) (by omega), rI2 V S P K l d hok hd j (i + 1) k (by omega) (by omega), List.range'_succ, List.all_cons]
    by_cases h6 : psum V i (pg d P i) = strAt l i
    · rw [if_pos h6, (pageOk_iff V P d l i).2 h6, Bool.true_and]
    · have h7 : pageOk V P d l i = false := by
        rw [Bool.eq_false_iff]
        exact fun h => h6 ((pageOk_iff V P d l i).1 h)
      rw [if_neg h6, h7, Bool.false_and, if_neg (by simp)]
theorem refIntact (V S P K : Int) (l : List ByteArray) (d : ByteArray) (hl : l.length ≤ 1000000000) {k : Nat} (hk : 200 ≤ k) : hopmeshref46_Intact.f k V S P K l d = fIntact V S P K l d := by
  unfold hopmeshref46_Intact.f fIntact
  have hbig : ¬ l.length > 1000000000 := by omega
  rw [refCheck' V S P K l (by omega), if_neg hbig]
  unfold fCheck
  by_cases hok : okMan V S P K l = true
  · obtain ⟨⟨m1, m2, m3, m4, -, m5⟩, hs⟩ := man_facts hok
    rw [if_pos hok, if_pos hok, Option.bind_some, if_pos rfl]
    by_cases hd : (d.size : Int) = S
    · rw [if_pos hd, if_pos hd]
      obtain ⟨k, rfl⟩ : ∃ m, k = m + 1 := ⟨k - 1, by omega⟩
      rw [List.range_eq_range']
      exact rI2 V S P K l d hok hd l.length 0 k (by omega) (by omega)
    · rw [if_neg hd, if_neg hd]
  · rw [if_neg hok, if_neg hok]
    rfl

/-! ### Same, Few -/
def fewB (l : List ByteArray) : Bool := decide (l.length ≤ 70) && l.all fun s => decide (s.size ≤ 100)
theorem refFew_l (V S P K : Int) (l : List ByteArray) (hl : l.length ≤ 1000000) :
    ∀ (j i : Nat), i + j = l.length → hopmeshref46_Few.l0 (j + 1) i V S P K l = some ((l.drop i).all fun s => decide (s.size ≤ 100))
  | 0, i, hi => by
    rw [hopmeshref46_Few.l0, if_neg (by omega), List.drop_eq_nil_of_le (by omega)]
    rfl
  | j + 1, i, hi => by
    have e : wrap64 ((i : Int) + 1) = ((i + 1 : Nat) : Int) := by unfold wrap64; omega
    have hlt : i < l.length := by omega
    have hr : rdOf ByteArray.empty l (i : Int) = l[i] := by
      unfold rdOf
      rw [Int.toNat_natCast, List.getD_eq_getElem?_getD, List.getElem?_eq_getElem hlt]
      rfl
    rw [hopmeshref46_Few.l0, if_pos (by omega), if_pos (by omega), hr, List.drop_eq_getElem_cons hlt, List.all_cons, e, refFew_l V S P K l hl j (i + 1) (by omega)]
    by_cases h : (l[i].size : Int) > 100
    · rw [if_pos h, decide_eq_false (by omega), Bool.false_and]
    · rw [if_neg h, decide_eq_true (by omega), Bool.true_and]
theorem refFew (V S P K : Int) (l : List ByteArray) : hopmeshref46_Few.f 72 V S P K l = some (fewB l) := by
  unfold hopmeshref46_Few.f fewB
  by_cases h : (l.length : Int) > 70
  · rw [if_pos h, decide_eq_false (by omega), Bool.false_and]
  · rw [if_neg h, decide_eq_true (by omega), Bool.true_and]
    have h0 := refFew_l V S P K l (by omega) l.length 0 (by omega)
    have hm : ∀ m, hopmeshref46_Few.l0 (l.length + 1 + m) 0 V S P K l = some (l.all fun s => decide (s.size ≤ 100)) := by
      intro m
      induction m with
      | zero => exact h0
      | succ m ih => exact hopmeshref46_Few.mono_l _ _ _ _ _ _ _ _ ih
    have := hm (71 - l.length)
    rw [show l.length + 1 + (71 - l.length) = 72 by omega] at this
    exact this

/-! ### Decode -/
/-! ### What the printed texts of the laws call -/
def fFew (_ _ _ _ : Int) (l : List ByteArray) : Option Bool := some (fewB l)
theorem uFew {V S P K : Int} {l : List ByteArray} {r : Bool} (h : fFew V S P K l = some r) : hopmeshref46_Few.f 72 V S P K l = some r := (refFew V S P K l).trans h
theorem uVerify {V S P K : Int} {l : List ByteArray} {i : Int} {d : ByteArray} {r : Int} (h : A.image_Verify.f V S P K l i d = some r) : hopmeshref46_Verify.f 71 V S P K l i d = some r := (refVerify V S P K l i d (Nat.le_refl 71)).trans h
theorem uIntact {V S P K : Int} {l : List ByteArray} {d : ByteArray} {r : Int} (h : fIntact V S P K l d = some r) : hopmeshref46_Intact.f 200 V S P K l d = some r := by
  refine (refIntact V S P K l d ?_ (Nat.le_refl 200)).trans h
  unfold fIntact at h
  split at h
  · cases h
  · exact Nat.not_lt.1 ‹_›
end Go.Proofs.Ytnfcohpljgmaiaa.PR
