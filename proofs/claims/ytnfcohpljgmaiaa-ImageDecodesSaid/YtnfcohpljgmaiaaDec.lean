/- Decoding and encoding of manifests undo each other. -/
import Derived.Test.YtnfcohpljgmaiaaRef
import Derived.Laws.BitsLemmas
namespace Go.Proofs.Ytnfcohpljgmaiaa.PR
open Go.RowKit Go.Proofs.Ytnfcohpljgmaiaa.R Go.Proofs.YtnfcohpljgmaiaaW.PrintWords Go.Proofs.YtnfcohpljgmaiaaW.PrintLast

/-- The number that bytes are. -/
def valL (l : List UInt8) : Int := l.foldl (fun x b => x * 256 + (b.toNat : Int)) 0
theorem wraps62 (n : Int) (h₀ : 0 ≤ n) (h₁ : n < 2 ^ 62) : IntKind.i64.wrap n = n := by rw [IntKind.wrap_i64]; omega
theorem step_or (x b : Int) (h0 : 0 ≤ x) (h1 : x < 1099511627776) (h2 : 0 ≤ b) (h3 : b < 256) : Go.bits .or .i64 (wrap64 (x * 256)) (wrap64 b) = x * 256 + b := by
  have e1 : wrap64 (x * 256) = x * 256 := by unfold wrap64; omega
  have e2 : wrap64 b = b := by unfold wrap64; omega
  rw [e1, e2]
  exact bits_join .i64 62 (by decide) wraps62 8 (x * 256) b (by omega) (by omega) (by omega) h2 (by omega) (by omega)
theorem value_ll (s : ByteArray) (hs : s.size ≤ 5) : ∀ (j i : Nat) (x : Int), i + j = s.size → 0 ≤ x → x < 256 ^ i → B.image_value.l0 (j + 1) s x s.size i = some ((s.data.toList.drop i).foldl (fun x b => x * 256 + (b.toNat : Int)) x)
  | 0, i, x, hi, _, _ => by
    rw [B.image_value.l0, if_neg (by omega), List.drop_eq_nil_of_le (by rw [Array.length_toList]; show s.size ≤ i; omega)]
    rfl
  | j + 1, i, x, hi, h0, h1 => by
    have e : wrap64 ((i : Int) + 1) = ((i + 1 : Nat) : Int) := by unfold wrap64; omega
    have hlt : i < s.data.toList.length := by rw [Array.length_toList]; show i < s.size; omega
    have hlt2 : i < s.size := by omega
    have hb : bt s i = ((s.data.toList[i]).toNat : Int) := by
      unfold bt
      rw [Int.toNat_natCast, dif_pos hlt2]
      rfl
    have hbl := UInt8.toNat_lt (s.data.toList[i])
    have hx : x < 1099511627776 := by
      have h5 : (256 : Nat) ^ i ≤ 256 ^ 5 := Nat.pow_le_pow_right (by omega) (by omega)
      have h6 : ((256 ^ i : Nat) : Int) = (256 : Int) ^ i := by simp
      have : (256 : Int) ^ i ≤ 256 ^ 5 := by rw [← h6]; exact Int.ofNat_le.2 h5
      omega
    have ep : (256 : Int) ^ (i + 1) = 256 ^ i * 256 := Int.pow_succ 256 i
    rw [B.image_value.l0, if_pos (by omega), if_pos (by omega), if_pos (by omega), e, hb, step_or x _ h0 hx (by omega) (by omega), value_ll s hs j (i + 1) _ (by omega) (by omega) (by rw [ep]; generalize (256 : Int) ^ i = y at *; omega), List.drop_eq_getElem_cons hlt, List.foldl_cons]
theorem value_eq (s : ByteArray) (hs : s.size ≤ 5) : B.image_value.f 20 s = some (valL s.data.toList) :=
  value_up s (n := s.size + 1) (value_ll s hs s.size 0 0 (by omega) (by omega) (by simp)) (by omega)
theorem byteOf_val (x : Int) (k : Nat) : ((byteOf x k).toNat : Int) = x / 2 ^ (8 * k) % 256 := by
  unfold byteOf
  rw [UInt8.toNat_ofNat']
  have : 0 ≤ x / 2 ^ (8 * k) % 256 ∧ x / 2 ^ (8 * k) % 256 < 256 := by omega
  generalize x / 2 ^ (8 * k) % 256 = y at *
  omega
theorem byteOf_eq (x : Int) (k : Nat) (b : UInt8) (h : x / 2 ^ (8 * k) % 256 = (b.toNat : Int)) : byteOf x k = b := by
  apply UInt8.toNat_inj.1
  have := byteOf_val x k
  omega
theorem be_val1 (a : UInt8) : be (valL [a]) 1 = [a] := by
  have ha := UInt8.toNat_lt a
  have e : valL [a] = (a.toNat : Int) := by simp [valL]
  rw [e, be, be, byteOf_eq _ 0 a (by omega)]
theorem be_val2 (a b : UInt8) : be (valL [a, b]) 2 = [a, b] := by
  have ha := UInt8.toNat_lt a
  have hb := UInt8.toNat_lt b
  have e : valL [a, b] = (a.toNat : Int) * 256 + b.toNat := by simp [valL]
  rw [e, be, be, be, byteOf_eq _ 1 a (by omega), byteOf_eq _ 0 b (by omega)]
theorem be_val4 (a b c d : UInt8) : be (valL [a, b, c, d]) 4 = [a, b, c, d] := by
  have ha := UInt8.toNat_lt a
  have hb := UInt8.toNat_lt b
  have hc := UInt8.toNat_lt c
  have hd := UInt8.toNat_lt d
  have e : valL [a, b, c, d] = (((a.toNat : Int) * 256 + b.toNat) * 256 + c.toNat) * 256 + d.toNat := by simp [valL]
  rw [e, be, be, be, be, be, byteOf_eq _ 3 a (by omega), byteOf_eq _ 2 b (by omega), byteOf_eq _ 1 c (by omega), byteOf_eq _ 0 d (by omega)]
/-- The nine bytes in front, and the rest, as a list. -/
theorem dec_vals (d : ByteArray) (h : 9 ≤ d.size) : B.image_value.f 20 (d.extract 0 2) = some (valL ((d.data.toList.drop 0).take 2)) ∧ B.image_value.f 20 (d.extract 2 6) = some (valL ((d.data.toList.drop 2).take 4)) ∧
    B.image_value.f 20 (d.extract 6 8) = some (valL ((d.data.toList.drop 6).take 2)) ∧ B.image_value.f 20 (d.extract 8 9) = some (valL ((d.data.toList.drop 8).take 1)) := by
  have hx : ∀ i j, (d.extract i j).data.toList = (d.data.toList.drop i).take (j - i) := fun i j => by
    rw [ByteArray.data_extract, Array.toList_extract, List.extract_eq_take_drop]
  refine ⟨?_, ?_, ?_, ?_⟩ <;> (rw [value_eq _ (by rw [ByteArray.size_extract]; omega), hx])
theorem list9 (l : List UInt8) (h : 9 ≤ l.length) : ∃ a b c d e f g h' i r, l = a :: b :: c :: d :: e :: f :: g :: h' :: i :: r := by
  rcases l with _ | ⟨a, _ | ⟨b, _ | ⟨c, _ | ⟨d, _ | ⟨e, _ | ⟨f, _ | ⟨g, _ | ⟨h', _ | ⟨i, r⟩⟩⟩⟩⟩⟩⟩⟩⟩ <;> simp at h
  exact ⟨a, b, c, d, e, f, g, h', i, r, rfl⟩
theorem catS_chs (d : ByteArray) (n : Nat) : ∀ c, 9 + 32 * c ≤ d.size → catS (chs d c) = (d.data.toList.drop 9).take (32 * c)
  | 0, _ => by simp [chs, catS]
  | c + 1, h => by
    have ih := catS_chs d n c (by omega)
    rw [chs_snoc]
    have e : catS (chs d c ++ [d.extract (9 + 32 * c) (41 + 32 * c)]) = catS (chs d c) ++ (d.extract (9 + 32 * c) (41 + 32 * c)).data.toList := by simp [catS]
    rw [e, ih, ByteArray.data_extract, Array.toList_extract, List.extract_eq_take_drop, show 41 + 32 * c - (9 + 32 * c) = 32 by omega, show 32 * (c + 1) = 32 * c + 32 by omega, List.take_add, List.drop_drop]
theorem enc_dec (d : ByteArray) (n : Nat) (hd : d.size = 9 + 32 * n) : encB (valL ((d.data.toList.drop 0).take 2)) (valL ((d.data.toList.drop 2).take 4)) (valL ((d.data.toList.drop 6).take 2)) (valL ((d.data.toList.drop 8).take 1)) (chs d n) = d := by
  have hlen : d.data.toList.length = 9 + 32 * n := by rw [Array.length_toList]; exact hd
  unfold encB
  rw [catS_chs d n n (by omega)]
  apply ByteArray.ext
  apply Array.toList_inj.1
  show _ = d.data.toList
  generalize d.data.toList = l at *
  obtain ⟨a, b, c, d, e, f, g, h', i, r, rfl⟩ := list9 l (by omega)
  simp only [List.drop_zero, List.drop_succ_cons, List.take_succ_cons, List.take_zero, be_val1, be_val2, be_val4, List.length_cons] at *
  rw [List.take_of_length_le (by omega)]
  rfl
theorem dec_at (d : ByteArray) (n : Nat) (hd : d.size = 9 + 32 * n) (hn : n ≤ 64) : fDecode d = some (if okMan (valL ((d.data.toList.drop 0).take 2)) (valL ((d.data.toList.drop 2).take 4)) (valL ((d.data.toList.drop 6).take 2)) (valL ((d.data.toList.drop 8).take 1)) (chs d n) = true then
    (valL ((d.data.toList.drop 0).take 2), valL ((d.data.toList.drop 2).take 4), valL ((d.data.toList.drop 6).take 2), valL ((d.data.toList.drop 8).take 1), chs d n, 0) else (0, 0, 0, 0, [], 10)) := by
  obtain ⟨h1, h2, h3, h4⟩ := dec_vals d (by omega)
  unfold fDecode
  have hdb : ¬ dbad d := by rintro (h | h | h) <;> omega
  rw [if_neg (by omega), if_neg hdb, h1, Option.bind_some, h2, Option.bind_some, h3, Option.bind_some, h4, Option.bind_some, dpages_chs d n hd]
  split <;> rfl
/-- What Decode gives is valid, and its bytes are the ones that were given; else nothing. -/
theorem dec_any (d : ByteArray) (hz : d.size ≤ 1000000) : fDecode d = some (0, 0, 0, 0, [], 10) ∨ ∃ V S P K l, fDecode d = some (V, S, P, K, l, 0) ∧ okMan V S P K l = true ∧ encB V S P K l = d := by
  by_cases hb : dbad d
  · left
    unfold fDecode
    rw [if_neg (by omega), if_pos hb]
  · obtain ⟨n, hn⟩ : ∃ n, d.size = 9 + 32 * n := ⟨(d.size - 9) / 32, by unfold dbad at hb; omega⟩
    have hn64 : n ≤ 64 := by unfold dbad at hb; omega
    have h := dec_at d n hn hn64
    by_cases hok : okMan (valL ((d.data.toList.drop 0).take 2)) (valL ((d.data.toList.drop 2).take 4)) (valL ((d.data.toList.drop 6).take 2)) (valL ((d.data.toList.drop 8).take 1)) (chs d n) = true
    · rw [if_pos hok] at h
      exact .inr ⟨_, _, _, _, _, h, hok, enc_dec d n hn⟩
    · rw [if_neg hok] at h
      exact .inl h
theorem man_ranges {V S P K : Int} {l : List ByteArray} (hok : okMan V S P K l = true) : (1 ≤ V ∧ V ≤ 65535) ∧ (1 ≤ S ∧ S ≤ 65536) ∧ (1 ≤ P ∧ P ≤ 4096) ∧ (1 ≤ K ∧ K ≤ 96) ∧ l.length ≤ 64 ∧ all32 l = true := by
  obtain ⟨⟨m1, m2, m3, m4, -, m5⟩, ⟨hs1, hs2, hs3, -⟩⟩ := man_facts hok
  have hv : 1 ≤ V ∧ V ≤ 65535 := by
    unfold okMan at hok
    simp only [Bool.and_eq_true] at hok
    have := okSizes_facts hok.1.1
    omega
  exact ⟨hv, ⟨hs1, hs2⟩, ⟨by omega, m4⟩, ⟨m1, m2⟩, hs3, man_all32 hok⟩
end Go.Proofs.Ytnfcohpljgmaiaa.PR
