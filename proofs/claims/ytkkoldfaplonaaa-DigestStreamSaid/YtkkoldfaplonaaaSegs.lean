/- Append to a slice that owns its stretch: of another slice's cells, of a number of zeros. -/
import Derived.Test.YtkkoldfaplonaaaSeg
import Derived.Deep.Upon
import Derived.Lib.AppendZerosOnto
namespace Go.Proofs.Ytkkoldfaplonaaa
open Go.RowKit Go.Lib

section
variable {P : Program} (w : World)

theorem addr_add (g off j : Nat) : (⟨g, off, none⟩ : Addr).add j = ⟨g, off + j, none⟩ := by
  unfold Addr.add
  split
  · rename_i h0
    rw [h0, Nat.add_zero]
  · rfl

/-- What such a slice yields to an append. -/
theorem Seg.src {base : Nat} {e tx e' : TypeId} {v : Value} {xs : List Value} (h : Seg w base e v xs) (hk : P.underlying tx = some (.slice e')) (h1 : ∀ u ∈ xs, u.oneCell' = true) : Src P 1 tx v xs.length xs w := by
  rcases h with ⟨rfl, rfl⟩ | ⟨g, off, cap, cur, rfl, hb, hg, hc, hs, hm, hx⟩
  · exact Src.ofNil w hk 0
  · refine Src.ofSlice w hk ⟨g, off, none⟩ xs.length cap xs (by simp) (fun j u hu => ?_) h1
    have hj : j < xs.length := (List.getElem?_eq_some_iff.1 hu).1
    rw [addr_add, cell_of hg, hx j hj, hu]

/-- append(v, x...), whatever the source. -/
theorem run_append_seg (base : Nat) (t tx ty e : TypeId) (i : TypeInfo) (z : Value) (ht : P.underlying t = some (.slice e)) (hi : P.info? e = some i) (hz : i.zero = some z)
    (hsize : i.size = 1) (hzc : z.cells.size = 1) (v : Value) (xs : List Value) (hown : Seg w base e v xs) (x : Value) (n : Nat) (news : List Value) (hs : Src P 1 tx x n news w)
    (h63 : xs.length + n ≤ maxLen) (h47 : (xs.length + n) * i.bytes ≤ 140737488355328) (hbase : base ≤ w.heap.size) :
    ∃ v' w', (Builtin.append_ #[t, tx] ty #[v, x]).run P w = .ok v' w' ∧ Seg w' base e v' (xs ++ news) ∧ Keeps (fun k => some k = v.ownBlock) w w' ∧ (v'.ownBlock = v.ownBlock ∨ v'.ownBlock = some w.heap.size) := by
  have hnl : news.length = n := by rw [hs.newsLen, Nat.mul_one]
  have h63' : ((xs.length + n : Nat) : Int) ≤ 9223372036854775807 := by simp only [maxLen] at h63; omega
  have hs1 : Src P i.size tx x n news w := by rw [hsize]; exact hs
  have grow : ∀ (a : Option Addr) (cap : Nat), v = .slice a xs.length cap → cap < xs.length + n → (Builtin.firstCells i.size xs.length (.slice a xs.length cap)).run P w.drew = .ok xs.toArray w.drew →
      ∃ v' w', (Builtin.append_ #[t, tx] ty #[v, x]).run P w = .ok v' w' ∧ Seg w' base e v' (xs ++ news) ∧ Keeps (fun k => some k = v.ownBlock) w w' ∧ (v'.ownBlock = v.ownBlock ∨ v'.ownBlock = some w.heap.size) := by
    rintro a cap rfl hlt hold
    have hr := run_append_grow_src (P := P) w t tx ty e i z ht hi hz a xs.length cap xs hold x n news hs1 hlt h63' (growslice_fits hlt h47)
    have hg := seg_grow w (base := base) (e := e) (xs := xs) (news := news) (xs.length + n) (grownCap w (xs.length + n) cap e) (Builtin.zeroCells z.cells (grownCap w (xs.length + n) cap e - (xs.length + n))) hbase (by rw [hnl])
      (grownCap_ge w _ cap e) (grownCap_le_maxLen w _ cap e h63) (by rw [size_zeroCells, hzc, Nat.mul_one]) (fun k => some k = (Value.slice a xs.length cap).ownBlock)
    have e1 : xs.toArray ++ news.toArray = (xs ++ news).toArray := by simp
    rw [e1] at hg
    exact ⟨_, _, hr, hg.1, hg.2, .inr rfl⟩
  rcases hown with ⟨rfl, rfl⟩ | ⟨g, off, cap, cur, rfl, hbg, hg, hnc, hcs, hcm, hx⟩
  · by_cases hn : n = 0
    · subst hn
      obtain rfl := List.eq_nil_of_length_eq_zero hnl
      exact ⟨_, _, run_append_nothing w t tx ty e i ht hi none 0 0 (Nat.le_refl _) x hs1, by simpa using Seg.nil w base e, Keeps.refl _ _, .inl rfl⟩
    · exact grow none 0 rfl (by simp; omega) (run_firstCells_none _ _ _ _ _)
  · by_cases hroom : xs.length + n ≤ cap
    · have hst := run_storeCells_at P g (off + xs.length) e news 0 cur w hg (by omega) hs.one
      simp only [Nat.add_zero, hnl] at hst
      have hr : (Builtin.append_ #[t, tx] ty #[.slice (some ⟨g, off, none⟩) xs.length cap, x]).run P w =
          .ok (.slice (some ⟨g, off, none⟩) (xs.length + n) cap) (w.setRow g (cur.toList.take (off + xs.length) ++ news ++ cur.toList.drop (off + xs.length + n)).toArray) := by
        rcases hs.kind with ⟨e', hk⟩ | hk <;> simp [Builtin.append_, run_underlying ht, run_underlying hk, sizeOf, typeInfo, hi, hsize, hs.len, hroom, hs.cells, addr_add, hst]
      have h := seg_room w (xs := xs) (news := news) hbg hg hcm (by rw [hnl]; exact hroom) hcs hx
      rw [hnl] at h
      exact ⟨_, _, hr, h.1, h.2, .inl rfl⟩
    · refine grow _ cap rfl (by omega) ?_
      rw [hsize]
      have := run_firstCells_some (P := P) w.drew 1 xs.length ⟨g, off, none⟩ xs.length cap xs (by simp) (fun j u hu => by
        have hj : j < xs.length := (List.getElem?_eq_some_iff.1 hu).1
        rw [addr_add]
        show w.cell? _ = _
        rw [cell_of hg, hx j hj, hu])
      exact this

theorem zeroCells_one (z : Value) (n : Nat) (hz : z.cells = #[z]) : Builtin.zeroCells z.cells n = (List.replicate n z).toArray := by
  unfold Builtin.zeroCells
  rw [hz]
  apply Array.ext'
  apply List.ext_getElem
  · simp
  · intro j h1 h2
    simp [Nat.mod_one]

/-- append(v, make([]T, n)...), n at least one. -/
theorem run_append_seg_zeros (base : Nat) (t tn ty e : TypeId) (i : TypeInfo) (z : Value) (kn kq : IntKind) (ht : P.underlying t = some (.slice e)) (htn : P.underlying tn = some (.int kn)) (hi : P.info? e = some i) (hz : i.zero = some z)
    (hsize : i.size = 1) (hzc : z.cells = #[z]) (hz1 : z.oneCell' = true) (v : Value) (xs : List Value) (hown : Seg w base e v xs) (n : Nat) (h0 : 0 < n)
    (h63 : xs.length + n ≤ maxLen) (h47 : (xs.length + n) * i.bytes ≤ 140737488355328) (hbase : base ≤ w.heap.size) :
    ∃ v' w', (Builtin.append_ #[t, tn] ty #[v, .int kq n]).run P w = .ok v' w' ∧ Seg w' base e v' (xs ++ List.replicate n z) ∧ Keeps (fun k => some k = v.ownBlock) w w' ∧ (v'.ownBlock = v.ownBlock ∨ v'.ownBlock = some w.heap.size) := by
  have h63' : ((xs.length + n : Nat) : Int) ≤ 9223372036854775807 := by simp only [maxLen] at h63; omega
  have h48 : n * i.bytes ≤ 281474976710656 := by
    have : n * i.bytes ≤ (xs.length + n) * i.bytes := Nat.mul_le_mul_right _ (by omega)
    omega
  have grow : ∀ (a : Option Addr) (cap : Nat), v = .slice a xs.length cap → cap < xs.length + n → (Builtin.firstCells i.size xs.length (.slice a xs.length cap)).run P w.drew = .ok xs.toArray w.drew →
      ∃ v' w', (Builtin.append_ #[t, tn] ty #[v, .int kq n]).run P w = .ok v' w' ∧ Seg w' base e v' (xs ++ List.replicate n z) ∧ Keeps (fun k => some k = v.ownBlock) w w' ∧ (v'.ownBlock = v.ownBlock ∨ v'.ownBlock = some w.heap.size) := by
    rintro a cap rfl hlt hold
    have hr := run_append_grow_zeros (P := P) w t tn ty e i z kq kn ht htn hi hz a xs.length cap xs hold n h0 (by omega) hlt h63' h48 (growslice_fits hlt h47)
    have hg := seg_grow w (base := base) (e := e) (xs := xs) (news := List.replicate n z) (xs.length + n) (grownCap w (xs.length + n) cap e) (Builtin.zeroCells z.cells (grownCap w (xs.length + n) cap e - (xs.length + n))) hbase (by rw [List.length_replicate])
      (grownCap_ge w _ cap e) (grownCap_le_maxLen w _ cap e h63) (by rw [size_zeroCells, hzc]; simp) (fun k => some k = (Value.slice a xs.length cap).ownBlock)
    rw [← zeroCells_one z n hzc] at hg
    exact ⟨_, _, hr, hg.1, hg.2, .inr rfl⟩
  rcases hown with ⟨rfl, rfl⟩ | ⟨g, off, cap, cur, rfl, hbg, hg, hnc, hcs, hcm, hx⟩
  · exact grow none 0 rfl (by simp; omega) (run_firstCells_none _ _ _ _ _)
  · by_cases hroom : xs.length + n ≤ cap
    · have hst := run_storeCells_at P g (off + xs.length) e (List.replicate n z) 0 cur w hg (by simp; omega) (fun u hu => by rw [List.eq_of_mem_replicate hu]; exact hz1)
      simp only [Nat.add_zero, List.length_replicate] at hst
      have hw : IntKind.i64.wrap (n : Int) = n := by rw [IntKind.wrap_i64]; omega
      have h48i : ¬ (281474976710656 < (n : Int) * (i.bytes : Int)) := by
        rw [← Int.natCast_mul]
        omega
      have hneg : ¬ ((n : Int) < 0) := by omega
      have hn : n ≠ 0 := by omega
      have hr : (Builtin.append_ #[t, tn] ty #[.slice (some ⟨g, off, none⟩) xs.length cap, .int kq n]).run P w =
          .ok (.slice (some ⟨g, off, none⟩) (xs.length + n) cap) (w.setRow g (cur.toList.take (off + xs.length) ++ List.replicate n z ++ cur.toList.drop (off + xs.length + n)).toArray) := by
        simp [Builtin.append_, run_underlying ht, run_underlying htn, sizeOf, typeInfo, zeroValue, hi, hz, hsize, asInt, asIntOf, hw, hn, hneg, h48i, hroom, addr_add, zeroCells_one z n hzc, hst]
      have h := seg_room w (xs := xs) (news := List.replicate n z) hbg hg hcm (by rw [List.length_replicate]; exact hroom) hcs hx
      rw [List.length_replicate] at h
      exact ⟨_, _, hr, h.1, h.2, .inl rfl⟩
    · refine grow _ cap rfl (by omega) ?_
      rw [hsize]
      have := run_firstCells_some (P := P) w.drew 1 xs.length ⟨g, off, none⟩ xs.length cap xs (by simp) (fun j u hu => by
        have hj : j < xs.length := (List.getElem?_eq_some_iff.1 hu).1
        rw [addr_add]
        show w.cell? _ = _
        rw [cell_of hg, hx j hj, hu])
      exact this

end
end Go.Proofs.Ytkkoldfaplonaaa
