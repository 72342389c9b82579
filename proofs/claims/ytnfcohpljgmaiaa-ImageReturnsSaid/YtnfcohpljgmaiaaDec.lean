/- Decoding and encoding of manifests undo each other. -/
import Derived.Test.YtnfcohpljgmaiaaRef
import Derived.Laws.BitsLemmas
namespace Go.Proofs.Ytnfcohpljgmaiaa.PR
open Go.RowKit Go.Proofs.Ytnfcohpljgmaiaa.R Go.Proofs.YtnfcohpljgmaiaaW.PrintWords Go.Proofs.YtnfcohpljgmaiaaW.PrintLast

/-- The number that bytes are. -/
def valL (l : List UInt8) : Int := l.foldl (fun x b => x * 256 + (b.toNat : Int)) 0
theorem wraps62 (n : Int) (h₀ : 0 ≤ n) (h₁ : n < 2 ^ 62) : IntKind.i64.wrap n = n := by rw [IntKind.wrap_i64]; omega
theorem step_or (x b : Int) (h0 : 0 ≤ x) (h1 : x < 1099511627776) (h2 : 0 ≤ b) (h3 : b < 256) : Go.bits .or .i64 (wrap64 (x * 256)) (wrap64 b) = x * 256 + b := by
  have e1 : wrap64 (x * 256) = x * 256 := by unfold wrap64; omega
  have e2 : wrap64 b = b := by unfold wrap64; omega
  rw [e1, e2]
  exact bits_join .i64 62 (by decide) wraps62 8 (x * 256) b (by omega) (by omega) (by omega) h2 (by omega) (by omega)
theorem value_ll (s : ByteArray) (hs : s.size ≤ 5) : ∀ (j i : Nat) (x : Int), i + j = s.size → 0 ≤ x → x < 256 ^ i → B.image_value.l0 (j + 1) s x s.size i = some ((s.data.toList.drop i).foldl (fun x b => x * 256 + (b.toNat : Int)) x)
  | 0, i, x, hi, _, _ => by
    rw [B.image_value.l0, if_neg (by omega), List.drop_eq_nil_of_le (by rw [Array.length_toList]; show s.size ≤ i; omega)]
    rfl
  | j + 1, i, x, hi, h0, h1 => by
    have e : wrap64 ((i : Int) + 1) = ((i + 1 : Nat) : Int) := by unfold wrap64; omega
    have hlt : i < s.data.toList.length := by rw [Array.length_toList]; show i < s.size; omega
    have hlt2 : i < s.size := by omega
    have hb : bt s i = ((s.data.toList[i]).toNat : Int) := by
      unfold bt
      rw [Int.toNat_natCast, dif_pos hlt2]
      rfl
    have hbl := UInt8.toNat_lt (s.data.toList[i])
    have hx : x < 1099511627776 := by
      have h5 : (256 : Nat) ^ i ≤ 256 ^ 5 := Nat.pow_le_pow_right (by omega) (by omega)
      have h6 : ((256 ^ i : Nat) : Int) = (256 : Int) ^ i := by simp
      have : (256 : Int) ^ i ≤ 256 ^ 5 := by rw [← h6]; exact Int.ofNat_le.2 h5
      omega
    have ep : (256 : Int) ^ (i + 1) = 256 ^ i * 256 := Int.pow_succ 256 i
    rw [B.image_value.l0, if_pos (by omega), if_pos (by omega), if_pos (by omega), e, hb, step_or x _ h0 hx (by omega) (by omega), value_ll s hs j (i + 1) _ (by omega) (by omega) (by rw [ep]; generalize (256 : Int) ^ i = y at *; omega), List.drop_eq_getElem_cons hlt, List.foldl_cons]
theorem value_eq (s : ByteArray) (hs : s.size ≤ 5) : B.image_value.f 20 s = some (valL s.data.toList) :=
  value_up s (n := s.size + 1) (value_ll s hs s.size 0 0 (by omega) (by omega) (by simp)) (by omega)
theorem byteOf_val (x : Int) (k : Nat) : ((byteOf x k).toNat : Int) = x / 2 ^ (8 * k) % 256 := by
  unfold byteOf
  rw [UInt8.toNat_ofNat']
  have : 0 ≤ x / 2 ^ (8 * k) % 256 ∧ x / 2 ^ (8 * k) % 256 < 256 := by omega
  generalize x / 2 ^ (8 * k) % 256 = y at *
  omega
theorem valL_be1 (x : Int) (h0 : 0 ≤ x) (h1 : x < 256) : valL (be x 1) = x := by
  unfold valL
  simp only [be, List.foldl_cons, List.foldl_nil, byteOf_val]
  omega
theorem valL_be2 (x : Int) (h0 : 0 ≤ x) (h1 : x < 65536) : valL (be x 2) = x := by
  unfold valL
  simp only [be, List.foldl_cons, List.foldl_nil, byteOf_val]
  omega
theorem valL_be4 (x : Int) (h0 : 0 ≤ x) (h1 : x < 4294967296) : valL (be x 4) = x := by
  unfold valL
  simp only [be, List.foldl_cons, List.foldl_nil, byteOf_val]
  omega
theorem byteOf_eq (x : Int) (k : Nat) (b : UInt8) (h : x / 2 ^ (8 * k) % 256 = (b.toNat : Int)) : byteOf x k = b := by
  apply UInt8.toNat_inj.1
  have := byteOf_val x k
  omega
theorem be_val1 (a : UInt8) : be (valL [a]) 1 = [a] := by
  have ha := UInt8.toNat_lt a
  have e : valL [a] = (a.toNat : Int) := by simp [valL]
  rw [e, be, be, byteOf_eq _ 0 a (by omega)]
theorem be_val2 (a b : UInt8) : be (valL [a, b]) 2 = [a, b] := by
  have ha := UInt8.toNat_lt a
  have hb := UInt8.toNat_lt b
  have e : valL [a, b] = (a.toNat : Int) * 256 + b.toNat := by simp [valL]
  rw [e, be, be, be, byteOf_eq _ 1 a (by omega), byteOf_eq _ 0 b (by omega)]
theorem be_val4 (a b c d : UInt8) : be (valL [a, b, c, d]) 4 = [a, b, c, d] := by
  have ha := UInt8.toNat_lt a
  have hb := UInt8.toNat_lt b
  have hc := UInt8.toNat_lt c
  have hd := UInt8.toNat_lt d
  have e : valL [a, b, c, d] = (((a.toNat : Int) * 256 + b.toNat) * 256 + c.toNat) * 256 + d.toNat := by simp [valL]
  rw [e, be, be, be, be, be, byteOf_eq _ 3 a (by omega), byteOf_eq _ 2 b (by omega), byteOf_eq _ 1 c (by omega), byteOf_eq _ 0 d (by omega)]
/-- The nine bytes in front, and the rest, as a list. -/
theorem dec_vals (d : ByteArray) (h : 9 ≤ d.size) : B.image_value.f 20 (d.extract 0 2) = some (valL ((d.data.toList.drop 0).take 2)) ∧ B.image_value.f 20 (d.extract 2 6) = some (valL ((d.data.toList.drop 2).take 4)) ∧
    B.image_value.f 20 (d.extract 6 8) = some (valL ((d.data.toList.drop 6).take 2)) ∧ B.image_value.f 20 (d.extract 8 9) = some (valL ((d.data.toList.drop 8).take 1)) := by
  have hx : ∀ i j, (d.extract i j).data.toList = (d.data.toList.drop i).take (j - i) := fun i j => by
    rw [ByteArray.data_extract, Array.toList_extract, List.extract_eq_take_drop]
  refine ⟨?_, ?_, ?_, ?_⟩ <;> (rw [value_eq _ (by rw [ByteArray.size_extract]; omega), hx])
theorem list9 (l : List UInt8) (h : 9 ≤ l.length) : ∃ a b c d e f g h' i r, l = a :: b :: c :: d :: e :: f :: g :: h' :: i :: r := by
  rcases l with _ | ⟨a, _ | ⟨b, _ | ⟨c, _ | ⟨d, _ | ⟨e, _ | ⟨f, _ | ⟨g, _ | ⟨h', _ | ⟨i, r⟩⟩⟩⟩⟩⟩⟩⟩⟩ <;> simp at h
  exact ⟨a, b, c, d, e, f, g, h', i, r, rfl⟩
theorem catS_chs (d : ByteArray) (n : Nat) : ∀ c, 9 + 32 * c ≤ d.size → catS (chs d c) = (d.data.toList.drop 9).take (32 * c)
  | 0, _ => by simp [chs, catS]
  | c + 1, h => by
    have ih := catS_chs d n c (by omega)
    rw [chs_snoc]
    have e : catS (chs d c ++ [d.extract (9 + 32 * c) (41 + 32 * c)]) = catS (chs d c) ++ (d.extract (9 + 32 * c) (41 + 32 * c)).data.toList := by simp [catS]
    rw [e, ih, ByteArray.data_extract, Array.toList_extract, List.extract_eq_take_drop, show 41 + 32 * c - (9 + 32 * c) = 32 by omega, show 32 * (c + 1) = 32 * c + 32 by omega, List.take_add, List.drop_drop]
theorem enc_dec (d : ByteArray) (n : Nat) (hd : d.size = 9 + 32 * n) : encB (valL ((d.data.toList.drop 0).take 2)) (valL ((d.data.toList.drop 2).take 4)) (valL ((d.data.toList.drop 6).take 2)) (valL ((d.data.toList.drop 8).take 1)) (chs d n) = d := by
  have hlen : d.data.toList.length = 9 + 32 * n := by rw [Array.length_toList]; exact hd
  unfold encB
  rw [catS_chs d n n (by omega)]
  apply ByteArray.ext
  apply Array.toList_inj.1
  show _ = d.data.toList
  generalize d.data.toList = l at *
  obtain ⟨a, b, c, d, e, f, g, h', i, r, rfl⟩ := list9 l (by omega)
  simp only [List.drop_zero, List.drop_succ_cons, List.take_succ_cons, List.take_zero, be_val1, be_val2, be_val4, List.length_cons] at *
  rw [List.take_of_length_le (by omega)]
  rfl
theorem dec_at (d : ByteArray) (n : Nat) (hd : d.size = 9 + 32 * n) (hn : n ≤ 64) : fDecode d = some (if okMan (valL ((d.data.toList.drop 0).take 2)) (valL ((d.data.toList.drop 2).take 4)) (valL ((d.data.toList.drop 6).take 2)) (valL ((d.data.toList.drop 8).take 1)) (chs d n) = true then
    (valL ((d.data.toList.drop 0).take 2), valL ((d.data.toList.drop 2).take 4), valL ((d.data.toList.drop 6).take 2), valL ((d.data.toList.drop 8).take 1), chs d n, 0) else (0, 0, 0, 0, [], 10)) := by
  obtain ⟨h1, h2, h3, h4⟩ := dec_vals d (by omega)
  unfold fDecode
  have hdb : ¬ dbad d := by rintro (h | h | h) <;> omega
  rw [if_neg (by omega), if_neg hdb, h1, Option.bind_some, h2, Option.bind_some, h3, Option.bind_some, h4, Option.bind_some, dpages_chs d n hd]
  split <;> rfl
/-- What Decode gives is valid, and its bytes are the ones that were given; else nothing. -/
theorem dec_any (d : ByteArray) (hz : d.size ≤ 1000000) : fDecode d = some (0, 0, 0, 0, [], 10) ∨ ∃ V S P K l, fDecode d = some (V, S, P, K, l, 0) ∧ okMan V S P K l = true ∧ encB V S P K l = d := by
  by_cases hb : dbad d
  · left
    unfold fDecode
    rw [if_neg (by omega), if_pos hb]
  · obtain ⟨n, hn⟩ : ∃ n, d.size = 9 + 32 * n := ⟨(d.size - 9) / 32, by unfold dbad at hb; omega⟩
    have hn64 : n ≤ 64 := by unfold dbad at hb; omega
    have h := dec_at d n hn hn64
    by_cases hok : okMan (valL ((d.data.toList.drop 0).take 2)) (valL ((d.data.toList.drop 2).take 4)) (valL ((d.data.toList.drop 6).take 2)) (valL ((d.data.toList.drop 8).take 1)) (chs d n) = true
    · rw [if_pos hok] at h
      exact .inr ⟨_, _, _, _, _, h, hok, enc_dec d n hn⟩
    · rw [if_neg hok] at h
      exact .inl h
/-- The digests behind the head of a manifest's bytes. -/
theorem extract_list (d : ByteArray) (i j : Nat) : (d.extract i j).data.toList = (d.data.toList.drop i).take (j - i) := by
  rw [ByteArray.data_extract, Array.toList_extract, List.extract_eq_take_drop]
theorem chs_of (l : List ByteArray) (h : all32 l = true) (d : ByteArray) (r : List UInt8) (hd : d.data.toList.drop 9 = catS l ++ r) : chs d l.length = l := by
  apply List.ext_getElem
  · exact chs_len _ _
  intro i h1 h2
  have hg : (chs d l.length)[i] = d.extract (9 + 32 * i) (41 + 32 * i) := by simp [chs]
  rw [hg]
  apply ByteArray.ext
  apply Array.toList_inj.1
  rw [extract_list, show 41 + 32 * i - (9 + 32 * i) = 32 by omega, ← List.drop_drop, hd]
  have key : ∀ (l : List ByteArray) (i : Nat) (hi : i < l.length), all32 l = true → ((catS l ++ r).drop (32 * i)).take 32 = (l[i]).data.toList := by
    intro l
    induction l with
    | nil => intro i hi; exact absurd hi (Nat.not_lt_zero _)
    | cons x l ih =>
      intro i hi ha
      unfold all32 at ha
      simp only [List.all_cons, Bool.and_eq_true, beq_iff_eq] at ha
      have hx : x.data.toList.length = 32 := by rw [Array.length_toList]; exact ha.1
      rw [catS_cons, List.append_assoc]
      cases i with
      | zero => rw [Nat.mul_zero, List.drop_zero, List.take_append_of_le_length (by omega), List.take_of_length_le (by omega)]; rfl
      | succ i =>
        rw [show 32 * (i + 1) = x.data.toList.length + 32 * i by omega, ← List.drop_drop, List.drop_append_of_le_length (Nat.le_refl _), List.drop_length, List.nil_append]
        exact ih i (by simpa using hi) ha.2
  exact key l i h2 h
theorem man_ranges {V S P K : Int} {l : List ByteArray} (hok : okMan V S P K l = true) : (1 ≤ V ∧ V ≤ 65535) ∧ (1 ≤ S ∧ S ≤ 65536) ∧ (1 ≤ P ∧ P ≤ 4096) ∧ (1 ≤ K ∧ K ≤ 96) ∧ l.length ≤ 64 ∧ all32 l = true := by
  obtain ⟨⟨m1, m2, m3, m4, -, m5⟩, ⟨hs1, hs2, hs3, -⟩⟩ := man_facts hok
  have hv : 1 ≤ V ∧ V ≤ 65535 := by
    unfold okMan at hok
    simp only [Bool.and_eq_true] at hok
    have := okSizes_facts hok.1.1
    omega
  exact ⟨hv, ⟨hs1, hs2⟩, ⟨by omega, m4⟩, ⟨m1, m2⟩, hs3, man_all32 hok⟩
theorem encB_list (V S P K : Int) (l : List ByteArray) : (encB V S P K l).data.toList = be V 2 ++ be S 4 ++ be P 2 ++ be K 1 ++ catS l := rfl
theorem head_vals {V S P K : Int} (hV : 1 ≤ V ∧ V ≤ 65535) (hS : 1 ≤ S ∧ S ≤ 65536) (hP : 1 ≤ P ∧ P ≤ 4096) (hK : 1 ≤ K ∧ K ≤ 96) (r : List UInt8) :
    valL (((be V 2 ++ be S 4 ++ be P 2 ++ be K 1 ++ r).drop 0).take 2) = V ∧ valL (((be V 2 ++ be S 4 ++ be P 2 ++ be K 1 ++ r).drop 2).take 4) = S ∧
    valL (((be V 2 ++ be S 4 ++ be P 2 ++ be K 1 ++ r).drop 6).take 2) = P ∧ valL (((be V 2 ++ be S 4 ++ be P 2 ++ be K 1 ++ r).drop 8).take 1) = K ∧ (be V 2 ++ be S 4 ++ be P 2 ++ be K 1 ++ r).drop 9 = r :=
  ⟨valL_be2 V (by omega) (by omega), valL_be4 S (by omega) (by omega), valL_be2 P (by omega) (by omega), valL_be1 K (by omega) (by omega), rfl⟩
theorem dec_enc {V S P K : Int} {l : List ByteArray} (hok : okMan V S P K l = true) : fDecode (encB V S P K l) = some (V, S, P, K, l, 0) := by
  obtain ⟨hV, hS, hP, hK, hl, ha⟩ := man_ranges hok
  have h := dec_at (encB V S P K l) l.length (encB_size V S P K l ha) hl
  obtain ⟨e1, e2, e3, e4, e5⟩ := head_vals hV hS hP hK (catS l)
  rw [encB_list, e1, e2, e3, e4, chs_of l ha (encB V S P K l) [] (by rw [encB_list, e5, List.append_nil]), if_pos hok] at h
  exact h
/-- No beginning of a manifest's bytes is accepted. -/
theorem dec_cut {V S P K : Int} {l : List ByteArray} (hok : okMan V S P K l = true) (c : Nat) (hc : c < 9 + 32 * l.length) : fDecode ((encB V S P K l).extract 0 c) = some (0, 0, 0, 0, [], 10) := by
  obtain ⟨hV, hS, hP, hK, hl, ha⟩ := man_ranges hok
  have hz := encB_size V S P K l ha
  have hcz : ((encB V S P K l).extract 0 c).size = c := by rw [ByteArray.size_extract]; omega
  rcases dec_any ((encB V S P K l).extract 0 c) (by omega) with h | ⟨V', S', P', K', l', h, hok', he⟩
  · exact h
  · exfalso
    obtain ⟨hV', hS', hP', hK', hl', ha'⟩ := man_ranges hok'
    have hz' := encB_size V' S' P' K' l' ha'
    rw [he, hcz] at hz'
    have e0 : (encB V' S' P' K' l').data.toList = (encB V S P K l).data.toList.take c := by
      rw [he, extract_list]
      simp
    have hc9 : 9 ≤ c := by omega
    obtain ⟨f1, f2, f3, f4, f5⟩ := head_vals hV' hS' hP' hK' (catS l')
    obtain ⟨g1, g2, g3, g4, g5⟩ := head_vals hV hS hP hK (catS l)
    rw [encB_list, encB_list] at e0
    rw [e0, List.drop_take, List.take_take, Nat.min_eq_left (by omega)] at f2 f3
    rw [g2] at f2
    rw [g3] at f3
    subst f2 f3
    obtain ⟨-, ⟨-, -, -, c1⟩⟩ := man_facts hok
    obtain ⟨-, ⟨-, -, -, c2⟩⟩ := man_facts hok'
    rw [← c1] at c2
    omega

end Go.Proofs.Ytnfcohpljgmaiaa.PR
