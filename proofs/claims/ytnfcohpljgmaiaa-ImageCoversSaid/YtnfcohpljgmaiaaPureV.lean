/- ImageCovers: the packets of all pages cover the image. -/
import Derived.Test.YtnfcohpljgmaiaaQVx0
import Derived.Test.YtnfcohpljgmaiaaQVx1
import Derived.Test.YtnfcohpljgmaiaaQVx2
namespace Go.Proofs.Ytnfcohpljgmaiaa.PV
open Go.RowKit Go.Proofs.Ytnfcohpljgmaiaa.QV Go.Proofs.YtnfcohpljgmaiaaW.PrintWords Go.Proofs.YtnfcohpljgmaiaaW.PrintLast

theorem few_l (V S P K : Int) (l : List ByteArray) (hl : l.length ≤ 1000000) :
    ∀ (j i : Nat), i + j = l.length → ∃ b, hopmeshref46_Few.l0 (j + 1) i V S P K l = some b
  | 0, i, hi => ⟨true, by rw [hopmeshref46_Few.l0, if_neg (by omega)]⟩
  | j + 1, i, hi => by
    have e : wrap64 ((i : Int) + 1) = ((i + 1 : Nat) : Int) := by unfold wrap64; omega
    rw [hopmeshref46_Few.l0, if_pos (by omega), if_pos (by omega), e]
    split
    · exact ⟨_, rfl⟩
    · exact few_l V S P K l hl j (i + 1) (by omega)
theorem few_some (V S P K : Int) (l : List ByteArray) : ∃ b, hopmeshref46_Few.f 72 V S P K l = some b := by
  unfold hopmeshref46_Few.f
  split
  · exact ⟨_, rfl⟩
  · obtain ⟨b, h⟩ := few_l V S P K l (by omega) l.length 0 (by omega)
    have hm : ∀ m, hopmeshref46_Few.l0 (l.length + 1 + m) 0 V S P K l = some b := by
      intro m
      induction m with
      | zero => exact h
      | succ m ih => exact hopmeshref46_Few.mono_l _ _ _ _ _ _ _ _ ih
    have := hm (71 - l.length)
    rw [show l.length + 1 + (71 - l.length) = 72 by omega] at this
    exact ⟨b, this⟩
/-- The size of page i, and its number of packets. -/
def psz (S P : Int) (i : Int) : Int := min P (S - i * P)
theorem man_facts {V S P K : Int} {l : List ByteArray} (hok : okMan V S P K l = true) : (1 ≤ K ∧ K ≤ 96 ∧ K ≤ P ∧ P ≤ 4096 ∧ P % K = 0 ∧ P ≤ 64 * K) ∧ (1 ≤ S ∧ S ≤ 65536 ∧ l.length ≤ 64 ∧ (l.length : Int) = cnt S P) := by
  unfold okMan at hok
  simp only [Bool.and_eq_true, decide_eq_true_eq] at hok
  have hf := okSizes_facts hok.1.1
  exact ⟨⟨by omega, by omega, by omega, by omega, hf.2.2.2.2.2.2.1, hf.2.2.2.2.2.2.2⟩, hok.1.2⟩
theorem page_in {V S P K : Int} {l : List ByteArray} (hok : okMan V S P K l = true) (i : Int) (h0 : 0 ≤ i) (h1 : i < l.length) : 0 ≤ i * P ∧ i * P < S := by
  obtain ⟨⟨m1, m2, m3, m4, -, m5⟩, hs⟩ := man_facts hok
  have h2 : i + 1 ≤ (S + P - 1) / P := by
    have := hs.2.2.2
    unfold cnt at this
    omega
  have h3 := Int.mul_le_mul_of_nonneg_right h2 (show (0 : Int) ≤ P by omega)
  have h4 := Int.ediv_mul_le (S + P - 1) (show P ≠ 0 by omega)
  rw [Int.add_mul] at h3
  exact ⟨Int.mul_nonneg h0 (by omega), by omega⟩
theorem size_at (V S P K : Int) (l : List ByteArray) (hok : okMan V S P K l = true) (i : Int) (h0 : 0 ≤ i) (h1 : i < l.length) : A.image_size.f V S P K l i = some (psz S P i) := by
  obtain ⟨⟨m1, m2, m3, m4, -, m5⟩, hs⟩ := man_facts hok
  obtain ⟨p0, p1⟩ := page_in hok i h0 h1
  have e1 : wrap64 (i * P) = i * P := by unfold wrap64; omega
  have e2 : wrap64 (S - i * P) = S - i * P := by unfold wrap64; omega
  unfold A.image_size.f psz mn
  rw [e1, e2]
  congr 1
  omega
theorem packets_at (V S P K : Int) (l : List ByteArray) (hok : okMan V S P K l = true) (i : Int) (h0 : 0 ≤ i) (h1 : i < l.length) : image_Packets.f V S P K l i = some (cnt (psz S P i) K, 0) := by
  obtain ⟨⟨m1, m2, m3, m4, -, m5⟩, hs⟩ := man_facts hok
  obtain ⟨p0, p1⟩ := page_in hok i h0 h1
  have hc : A.image_count.f (psz S P i) K = some (cnt (psz S P i) K) := count_eq _ _ (by unfold psz; omega) (by unfold psz; omega) (by omega) (by omega)
  unfold image_Packets.f A.image_Packets.f A.image_page.f A.image_Check.f fCheck
  rw [if_pos hok]
  simp only [Option.bind_some, if_true]
  rw [if_neg (by omega), if_neg (by omega)]
  simp only [Option.bind_some, if_true]
  rw [size_at V S P K l hok i h0 h1, Option.bind_some, hc]
  rfl
theorem span_at (V S P K : Int) (l : List ByteArray) (hok : okMan V S P K l = true) (i j : Int) (h0 : 0 ≤ i) (h1 : i < l.length) (h2 : 0 ≤ j) (h3 : j < cnt (psz S P i) K) :
    image_Span.f V S P K l i j = some (i * P + j * K, min (i * P + j * K + K) (i * P + psz S P i), 0) := by
  obtain ⟨⟨m1, m2, m3, m4, -, m5⟩, hs⟩ := man_facts hok
  obtain ⟨p0, p1⟩ := page_in hok i h0 h1
  have hp := packets_at V S P K l hok i h0 h1
  unfold image_Packets.f at hp
  have hj : 0 ≤ j * K ∧ j * K < psz S P i := by
    have h4 : j + 1 ≤ (psz S P i + K - 1) / K := by unfold cnt at h3; omega
    have h5 := Int.mul_le_mul_of_nonneg_right h4 (show (0 : Int) ≤ K by omega)
    have h6 := Int.ediv_mul_le (psz S P i + K - 1) (show K ≠ 0 by omega)
    rw [Int.add_mul] at h5
    exact ⟨Int.mul_nonneg h2 (by omega), by omega⟩
  have hz : psz S P i ≤ 4096 := by unfold psz; omega
  have e1 : wrap64 (i * P) = i * P := by unfold wrap64; omega
  have e2 : wrap64 (j * K) = j * K := by unfold wrap64; omega
  have e3 : wrap64 (i * P + j * K) = i * P + j * K := by unfold wrap64; omega
  have e4 : wrap64 (i * P + j * K + K) = i * P + j * K + K := by unfold wrap64; omega
  have e5 : wrap64 (i * P + psz S P i) = i * P + psz S P i := by unfold wrap64; omega
  unfold image_Span.f A.image_Span.f
  rw [hp, Option.bind_some]
  simp only [if_true]
  rw [if_neg (by omega), if_neg (by omega), size_at V S P K l hok i h0 h1, Option.bind_some, e1, e2, e3, e4, e5]
  unfold mn
  congr 3
  omega

/-- Where packet j of a page begins; behind the last one, where the page ends. -/
def Eat (b s K : Int) (N j : Nat) : Int := if j < N then b + j * K else b + s
theorem eat_facts {s K : Int} {N j : Nat} (hK : 1 ≤ K) (hN : (s + K - 1) / K = N) (b : Int) (hj : j < N) :
    min (b + j * K + K) (b + s) = Eat b s K N (j + 1) ∧ 1 ≤ Eat b s K N (j + 1) - (b + j * K) ∧ Eat b s K N (j + 1) - (b + j * K) ≤ K ∧ ((j : Int) < (N : Int) - 1 → Eat b s K N (j + 1) - (b + j * K) = K) := by
  have h6 := Int.ediv_mul_le (s + K - 1) (show K ≠ 0 by omega)
  have h4 := Int.lt_ediv_add_one_mul_self (s + K - 1) (show 0 < K by omega)
  rw [hN] at h6 h4
  rw [Int.add_mul] at h4
  have e : ((j + 1 : Nat) : Int) * K = j * K + K := by rw [Int.natCast_add, Int.add_mul]; omega
  have h1 : ((j : Int) + 1) * K ≤ (N : Int) * K := Int.mul_le_mul_of_nonneg_right (by omega) (by omega)
  rw [Int.add_mul] at h1
  by_cases h : j + 1 < N
  · have h2 : ((j : Int) + 2) * K ≤ (N : Int) * K := Int.mul_le_mul_of_nonneg_right (by omega) (by omega)
    rw [Int.add_mul] at h2
    have hE : Eat b s K N (j + 1) = b + j * K + K := by unfold Eat; rw [if_pos h, e]; omega
    rw [hE]
    generalize (j : Int) * K = x at *
    generalize (N : Int) * K = y at *
    exact ⟨Int.min_eq_left (by omega), by omega, by omega, fun _ => by omega⟩
  · have hE : Eat b s K N (j + 1) = b + s := by unfold Eat; rw [if_neg h]
    have hNj : (N : Int) = (j : Int) + 1 := by omega
    rw [hNj, Int.add_mul] at h4 h6
    rw [hE]
    clear h1
    generalize (j : Int) * K = x at *
    exact ⟨Int.min_eq_right (by omega), by omega, by omega, fun hh => by omega⟩
theorem covers_l1 (V S P K : Int) (l : List ByteArray) (i N : Nat) (b s : Int) (hb0 : 0 ≤ b) (hb1 : b ≤ 65536) (hs0 : 1 ≤ s) (hs1 : s ≤ 4096) (hK : 1 ≤ K) (hK1 : K ≤ 96) (hN : (s + K - 1) / K = N) (hNb : (N : Int) ≤ 5000) (hl : l.length ≤ 64) (hi : i < l.length)
    (hsp : ∀ j : Nat, j < N → image_Span.f V S P K l i j = some (b + j * K, min (b + j * K + K) (b + s), 0)) (hlast : (i : Int) < (l.length : Int) - 1 → b + s = wrap64 (((i + 1 : Nat) : Int) * P))
    (next : ∃ k, hopmeshlaw46_ImageCovers.l0 k (b + s) l.length ((i + 1 : Nat) : Int) V S P K l = some true) :
    ∀ (m j : Nat), j + m = N → ∃ k, hopmeshlaw46_ImageCovers.l1 k (Eat b s K N j) i N l.length i N j V S P K l = some true
  | 0, j, hj => by
    obtain rfl : j = N := hj
    obtain ⟨k, hk⟩ := next
    have ea : Eat b s K j j = b + s := by unfold Eat; rw [if_neg (Nat.lt_irrefl _)]
    have ei : wrap64 ((i : Int) + 1) = ((i + 1 : Nat) : Int) := by unfold wrap64; omega
    have el : wrap64 ((l.length : Int) - 1) = (l.length : Int) - 1 := by unfold wrap64; omega
    have hn : ¬ (j : Int) < (j : Int) := Int.lt_irrefl _
    refine ⟨k + 1, ?_⟩
    rw [hopmeshlaw46_ImageCovers.l1, if_neg hn, ea, ei, el]
    by_cases hl2 : (i : Int) < (l.length : Int) - 1
    · rw [if_pos hl2, if_pos (hlast hl2)]
      exact hk
    · rw [if_neg hl2]
      exact hk
  | m + 1, j, hj => by
    have hjN : j < N := by clear hsp hlast next hN; omega
    obtain ⟨k, hk⟩ := covers_l1 V S P K l i N b s hb0 hb1 hs0 hs1 hK hK1 hN hNb hl hi hsp hlast next m (j + 1) (by clear hsp hlast next hN; omega)
    have hjI : (j : Int) < (N : Int) := Int.ofNat_lt.2 hjN
    obtain ⟨t1, t2, t3, t4⟩ := eat_facts (s := s) hK hN b hjN
    have ej : wrap64 ((j : Int) + 1) = ((j + 1 : Nat) : Int) := by clear hsp hlast next hN t1 t2 t3 t4; unfold wrap64; omega
    have en : wrap64 ((N : Int) - 1) = (N : Int) - 1 := by clear hsp hlast next hN t1 t2 t3 t4; unfold wrap64; omega
    have ea : Eat b s K N j = b + j * K := by unfold Eat; rw [if_pos hjN]
    have hsp := hsp j hjN
    rw [t1] at hsp
    rw [ea]
    clear ea t1 hlast next hN
    generalize Eat b s K N (j + 1) = T at *
    generalize b + j * K = F at *
    have ew : wrap64 (T - F) = T - F := by unfold wrap64; omega
    have c1 : ¬ T ≤ F := by omega
    have c2 : ¬ T - F > K := by omega
    refine ⟨k + 1, ?_⟩
    rw [hopmeshlaw46_ImageCovers.l1, if_pos hjI, hsp, Option.bind_some]
    simp only [if_true]
    rw [if_neg c1, ew, if_neg c2, en, ej]
    by_cases hl : (j : Int) < (N : Int) - 1
    · rw [if_pos hl, if_pos (t4 hl)]
      exact hk
    · rw [if_neg hl]
      exact hk

theorem page_nums {V S P K : Int} {l : List ByteArray} (hok : okMan V S P K l = true) (i : Nat) (hi : i < l.length) : ∃ N : Nat, (psz S P i + K - 1) / K = N ∧ 1 ≤ (N : Int) ∧ (N : Int) ≤ 64 ∧ 1 ≤ psz S P i ∧ psz S P i ≤ 4096 ∧ (i : Int) * P + psz S P i = min (((i + 1 : Nat) : Int) * P) S ∧
    0 ≤ (i : Int) * P ∧ (i : Int) * P ≤ 65536 ∧ ((i : Int) < (l.length : Int) - 1 → (i : Int) * P + psz S P i = wrap64 (((i + 1 : Nat) : Int) * P)) := by
  obtain ⟨⟨m1, m2, m3, m4, -, m5⟩, ⟨hs1, hs2, hs3, -⟩⟩ := man_facts hok
  obtain ⟨p0, p1⟩ := page_in hok i (Int.natCast_nonneg i) (Int.ofNat_lt.2 hi)
  have e3 : ((i + 1 : Nat) : Int) * P = i * P + P := by rw [Int.natCast_add, Int.add_mul]; simp
  have hlast : (i : Int) < (l.length : Int) - 1 → (i : Int) * P + P < S := fun h => by
    obtain ⟨q0, q1⟩ := page_in hok ((i : Int) + 1) (by omega) (by omega)
    rw [Int.add_mul, Int.one_mul] at q1
    exact q1
  have hpd : psz S P i = min P (S - i * P) := rfl
  rw [e3, hpd]
  clear hpd e3 hok
  generalize (i : Int) * P = x at *
  have hz : 1 ≤ min P (S - x) ∧ min P (S - x) ≤ P := ⟨by omega, by omega⟩
  have hsum : x + min P (S - x) = min (x + P) S := by omega
  have hw : (i : Int) < (l.length : Int) - 1 → x + min P (S - x) = wrap64 (x + P) := fun h => by
    have := hlast h
    rw [Int.min_eq_left (by omega)]
    unfold wrap64
    omega
  clear hlast
  generalize min P (S - x) = s at *
  have hn0 : 0 ≤ (s + K - 1) / K := Int.ediv_nonneg (by omega) (by omega)
  have h6 := Int.ediv_mul_le (s + K - 1) (show K ≠ 0 by omega)
  obtain ⟨N, hN⟩ : ∃ N : Nat, (s + K - 1) / K = N := ⟨((s + K - 1) / K).toNat, by omega⟩
  have hN1 : 1 ≤ (N : Int) := by
    rw [← hN]
    exact (Int.le_ediv_iff_mul_le (by omega)).2 (by omega)
  rw [hN] at h6
  have hN64 : (N : Int) ≤ 64 := by
    rcases Int.lt_or_le (64 : Int) N with h8 | h8
    · have := Int.mul_le_mul_of_nonneg_right (show (65 : Int) ≤ N by omega) (show (0 : Int) ≤ K by omega)
      omega
    · exact h8
  exact ⟨N, hN, hN1, hN64, hz.1, by omega, hsum, p0, by omega, hw⟩

theorem covers_l0 (V S P K : Int) (l : List ByteArray) (hok : okMan V S P K l = true) :
    ∀ (m i : Nat), i + m = l.length → ∃ k, hopmeshlaw46_ImageCovers.l0 k (min (i * P) S) l.length i V S P K l = some true
  | 0, i, hi => by
    obtain ⟨⟨m1, m2, m3, m4, -, m5⟩, ⟨hs1, hs2, hs3, hs4⟩⟩ := man_facts hok
    have h4 := Int.lt_ediv_add_one_mul_self (S + P - 1) (show 0 < P from by clear hs4; omega)
    have h5 : (S + P - 1) / P = i := hs4.symm.trans (by rw [← hi]; rfl)
    rw [h5, Int.add_mul] at h4
    have ea : min ((i : Int) * P) S = S := by
      clear h5 hs4
      exact Int.min_eq_right (by omega)
    have hn : ¬ (i : Int) < (l.length : Int) := by rw [← hi]; exact Int.lt_irrefl _
    refine ⟨1, ?_⟩
    rw [hopmeshlaw46_ImageCovers.l0, if_neg hn, ea]
    simp
  | m + 1, i, hi => by
    have hlt : i < l.length := by omega
    have h1 : (i : Int) < l.length := Int.ofNat_lt.2 hlt
    obtain ⟨⟨m1, m2, m3, m4, -, m5⟩, ⟨hs1, hs2, hs3, -⟩⟩ := man_facts hok
    obtain ⟨N, hN, hN1, hN64, z1, z2, enext, b0, b1, hlast⟩ := page_nums hok i hlt
    have next := covers_l0 V S P K l hok m (i + 1) (by omega)
    rw [← enext] at next
    have hpk := packets_at V S P K l hok i (Int.natCast_nonneg i) h1
    rw [show cnt (psz S P i) K = N from hN] at hpk
    have hsp : ∀ j : Nat, j < N → image_Span.f V S P K l i j = some ((i : Int) * P + j * K, min ((i : Int) * P + j * K + K) ((i : Int) * P + psz S P i), 0) := fun j hj => span_at V S P K l hok i j (Int.natCast_nonneg i) h1 (Int.natCast_nonneg j) (by rw [show cnt (psz S P i) K = N from hN]; exact Int.ofNat_lt.2 hj)
    obtain ⟨k, hk⟩ := covers_l1 V S P K l i N ((i : Int) * P) (psz S P i) b0 b1 z1 z2 m1 m2 hN (Int.le_trans hN64 (by decide)) hs3 hlt hsp hlast next N 0 (Nat.zero_add _)
    have e0 : Eat ((i : Int) * P) (psz S P i) K N 0 = min ((i : Int) * P) S := by
      obtain ⟨p0, p1⟩ := page_in hok i (Int.natCast_nonneg i) h1
      have hNpos : 0 < N := Int.ofNat_lt.1 (show (0 : Int) < N from hN1)
      unfold Eat
      rw [if_pos hNpos, Int.min_eq_left (Int.le_of_lt p1)]
      simp
    rw [e0] at hk
    have c1 : ¬ (N : Int) < 1 := Int.not_lt.2 hN1
    have c2 : decide ((N : Int) > 64) = false := decide_eq_false (Int.not_lt.2 hN64)
    refine ⟨k + 2, ?_⟩
    rw [hopmeshlaw46_ImageCovers.l0, if_pos h1, hpk, Option.bind_some]
    simp only [if_true]
    rw [if_neg c1, c2, hopmeshlaw46_ImageCovers.j2, if_neg (by simp)]
    exact hk

theorem covers (V S P K : Int) (l : List ByteArray) : ∃ k, hopmeshlaw46_ImageCovers.f k V S P K l = some true := by
  obtain ⟨b, hb⟩ := few_some V S P K l
  have hj : ∃ k, hopmeshlaw46_ImageCovers.j0 k ((if okMan V S P K l = true then (0 : Int) else 1) != 0) V S P K l = some true := by
    by_cases hok : okMan V S P K l = true
    · obtain ⟨k, hk⟩ := covers_l0 V S P K l hok l.length 0 (by omega)
      obtain ⟨⟨m1, m2, m3, m4, -, m5⟩, hs⟩ := man_facts hok
      have e0 : min (((0 : Nat) : Int) * P) S = 0 := by
        rw [show (((0 : Nat) : Int)) * P = 0 by simp]
        omega
      rw [e0] at hk
      refine ⟨k + 1, ?_⟩
      rw [if_pos hok, hopmeshlaw46_ImageCovers.j0, if_neg (by simp)]
      exact hk
    · refine ⟨1, ?_⟩
      rw [if_neg hok]
      rfl
  obtain ⟨k, hk⟩ := hj
  have up : ∀ m, hopmeshlaw46_ImageCovers.j0 (k + m) ((if okMan V S P K l = true then (0 : Int) else 1) != 0) V S P K l = some true := by
    intro m
    induction m with
    | zero => exact hk
    | succ m ih => exact (hopmeshlaw46_ImageCovers.mono_l _).1 _ _ _ _ _ _ _ ih
  have upF : ∀ m, hopmeshref46_Few.f (72 + m) V S P K l = some b := by
    intro m
    induction m with
    | zero => exact hb
    | succ m ih => exact hopmeshref46_Few.mono _ _ _ _ _ _ _ ih
  refine ⟨72 + k, ?_⟩
  unfold hopmeshlaw46_ImageCovers.f
  show (some true).bind _ = _
  rw [Option.bind_some, if_pos rfl, upF, Option.bind_some]
  have hyes : hopmeshlaw46_ImageCovers.j0 (72 + k) true V S P K l = some true := by
    rw [show 72 + k = (71 + k) + 1 by omega]
    rfl
  cases b
  · exact hyes
  · rw [if_pos rfl]
    unfold image_Check.f fCheck
    rw [Option.bind_some, show 72 + k = k + 72 by omega]
    exact up 72

theorem cov (V S P K : Int) (A : Option Addr) (c : Nat) (l : List ByteArray) (w : World) (hC : Kd.C Kd.string w A l.length l) (hc : l.length ≤ c) :
    Calls Try.prog 5 #[.agg #[.int .i64 V, .int .i64 S, .int .i64 P, .int .i64 K, .slice A l.length c]] w fun e w' => e = .returned (.bool true) ∧ Below w.heap.size w w' := by
  obtain ⟨k, hk⟩ := covers V S P K l
  exact hopmeshlaw46_ImageCovers.calls k V S P K A c l true w hC hc hk

end Go.Proofs.Ytnfcohpljgmaiaa.PV
