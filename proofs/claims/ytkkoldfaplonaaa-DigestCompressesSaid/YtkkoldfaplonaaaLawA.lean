/- Equality of arrays of words; mixing can be undone. -/
import Derived.Test.YtkkoldfaplonaaaAwake
import Derived.ChangeKeysEq
import Derived.Laws.StructEq
namespace Go.Proofs.Ytkkoldfaplonaaa
open Go.RowKit

section
variable {P : Program}
theorem eqItems_u32s {e : TypeId} (he : P.underlying e = some (.int .u32)) (hagg : ∀ w, (isAgg e).run P w = .ok false w) (d : Nat) (w : World) : ∀ (k j : Nat) (a b : List UInt32), a.length = j + k → b.length = j + k →
    (Op.eqItems (d + 1) e 1 (u32s a).toArray (u32s b).toArray (List.range' j k)).run P w = .ok (decide (a.drop j = b.drop j)) w
  | 0, j, a, b, ha, hb => by
    rw [List.drop_eq_nil_of_le (by omega), List.drop_eq_nil_of_le (by omega)]
    simp [Op.eqItems]
  | k + 1, j, a, b, ha, hb => by
    have ih := eqItems_u32s he hagg d w k (j + 1) a b (by omega) (by omega)
    rw [List.range'_succ]
    have pa : ∀ (l : List UInt32) (h : j < l.length), (part e (u32s l).toArray (j * 1)).run P w = .ok (.int .u32 (n32 l[j])) w := by
      intro l h
      simp [part, hagg, u32s, List.getElem?_eq_getElem h]
    rw [List.drop_eq_getElem_cons (l := a) (show j < a.length by omega), List.drop_eq_getElem_cons (l := b) (show j < b.length by omega)]
    simp only [Op.eqItems, Sem.run_bind, pa a (by omega), pa b (by omega), Result.andThen_ok, run_equalIn_int w d e .u32 .u32 _ _ he]
    by_cases h : a[j] = b[j]
    · rw [h]
      simp only [beq_self_eq_true, Bool.not_true, Bool.false_eq_true, if_false]
      rw [ih]
      simp only [List.cons.injEq, true_and]
    · have h' : (n32 a[j] == n32 b[j]) = false := by
        rw [beq_eq_false_iff_ne]
        exact fun e => h (n32_inj.1 e)
      rw [h']
      simp only [Bool.not_false, if_true, List.cons.injEq, h, false_and, decide_false]
      rfl

theorem run_eq_u32s {t e : TypeId} {n : Nat} {i : TypeInfo} (ht : P.underlying t = some (.array n e)) (he : P.underlying e = some (.int .u32)) (hagg : ∀ w, (isAgg e).run P w = .ok false w) (hi : P.info? e = some i) (hc : P.cellsOf e = 1)
    (a b : List UInt32) (ha : a.length = n) (hb : b.length = n) (w : World) : (Op.equalIn 10000 t (.agg (u32s a).toArray) (.agg (u32s b).toArray)).run P w = .ok (decide (a = b)) w := by
  have h := run_equalIn_array (P := P) w 9999 (u32s a).toArray (u32s b).toArray ht hi
  rw [h, hc, List.range_eq_range', eqItems_u32s he hagg 9998 w n 0 a b (by omega) (by omega)]
  rfl
end

theorem rotl_inj (s : Nat) (hs : s < 32) {x y : UInt32} (h : rotl x s = rotl y s) : x = y := by
  unfold rotl at h
  have h1 : x.toBitVec.rotateLeft s = y.toBitVec.rotateLeft s := congrArg UInt32.toBitVec h
  have h2 : ∀ z : BitVec 32, (z.rotateLeft s).rotateRight s = z := by
    intro z
    apply BitVec.eq_of_getLsbD_eq
    intro i hi
    rw [BitVec.getLsbD_rotateRight, BitVec.getLsbD_rotateLeft, BitVec.getLsbD_rotateLeft, Nat.mod_eq_of_lt hs]
    by_cases c : i < 32 - s
    · simp only [c, decide_true]
      by_cases c2 : s + i < s
      · omega
      · simp only [c2, decide_false]
        simp [show s + i < 32 by omega]
    · simp only [c, decide_false]
      by_cases c2 : i - (32 - s) < s
      · simp [c2, hi, show 32 - s + (i - (32 - s)) = i by omega]
      · omega
  have h3 := congrArg (fun z => BitVec.rotateRight z s) h1
  simp only [h2] at h3
  exact UInt32.toBitVec_inj.1 h3
theorem xor_left_inj {d x y : UInt32} (h : d ^^^ x = d ^^^ y) : x = y := by
  have h1 := congrArg (fun z => d ^^^ z) h
  simpa [← UInt32.xor_assoc] using h1

theorem add_cancel {a b z : UInt32} (h : a + z = b + z) : a = b := by
  have h1 := congrArg (fun q => q - z) h
  simpa using h1
theorem half_inj {a b c d a' b' c' d' z : UInt32} {s1 s2 : Nat} (hs1 : s1 < 32) (hs2 : s2 < 32) (h1 : a + (b + z) = a' + (b' + z)) (h4 : rotl (d ^^^ (a + (b + z))) s1 = rotl (d' ^^^ (a' + (b' + z))) s1)
    (h3 : c + rotl (d ^^^ (a + (b + z))) s1 = c' + rotl (d' ^^^ (a' + (b' + z))) s1)
    (h2 : rotl (b ^^^ (c + rotl (d ^^^ (a + (b + z))) s1)) s2 = rotl (b' ^^^ (c' + rotl (d' ^^^ (a' + (b' + z))) s1)) s2) : a = a' ∧ b = b' ∧ c = c' ∧ d = d' := by
  have ed : d = d' := by
    have h := rotl_inj s1 hs1 h4
    rw [h1, UInt32.xor_comm d, UInt32.xor_comm d'] at h
    exact xor_left_inj h
  have ec : c = c' := by
    rw [h4] at h3
    exact add_cancel h3
  have eb : b = b' := by
    have h := rotl_inj s2 hs2 h2
    rw [h3, UInt32.xor_comm b, UInt32.xor_comm b'] at h
    exact xor_left_inj h
  refine ⟨?_, eb, ec, ed⟩
  rw [eb] at h1
  exact add_cancel h1

/-- Mixing can be undone. -/
theorem mix_inj {a b c d a' b' c' d' x y : UInt32} (h : mix a b c d x y = mix a' b' c' d' x y) : a = a' ∧ b = b' ∧ c = c' ∧ d = d' := by
  unfold mix at h
  simp only [Quad.mk.injEq] at h
  obtain ⟨h1, h2, h3, h4⟩ := h
  obtain ⟨e1, e2, e3, e4⟩ := half_inj (s1 := 24) (s2 := 25) (by decide) (by decide) h1 h4 h3 h2
  exact half_inj (s1 := 16) (s2 := 20) (by decide) (by decide) e1 e4 e3 e2

end Go.Proofs.Ytkkoldfaplonaaa
