/- A slice that owns a stretch of a row, wherever in the row it begins, and append to it: of a string's bytes, of zeros, of another slice's cells. -/
import Derived.Test.YtkkoldfaplonaaaBase
import Derived.Lib.AppendStr
import Derived.Lib.AppendZeros
import Derived.ArgAppend
namespace Go.Proofs.Ytkkoldfaplonaaa
open Go.RowKit Go.Lib

/-- The slice v is nil and xs is empty, or v begins somewhere in a row from block base on, which nobody else writes, and its cells are xs. -/
def Seg (w : World) (base : Nat) (e : TypeId) (v : Value) (xs : List Value) : Prop :=
  (v = .slice none 0 0 ∧ xs = []) ∨
  ∃ g off cap cur, v = .slice (some ⟨g, off, none⟩) xs.length cap ∧ base ≤ g ∧ w.heap[g]? = some (.cells cur e (0, 0)) ∧ xs.length ≤ cap ∧ off + cap ≤ cur.size ∧ cap ≤ maxLen ∧ ∀ j, j < xs.length → cur[off + j]? = xs[j]?

theorem Seg.nil (w : World) (base : Nat) (e : TypeId) : Seg w base e (.slice none 0 0) [] := .inl ⟨rfl, rfl⟩

theorem Seg.lt {w : World} {base : Nat} {e : TypeId} {v : Value} {xs : List Value} (h : Seg w base e v xs) : ∀ k, v.ownBlock = some k → base ≤ k ∧ k < w.heap.size := by
  intro k hk
  rcases h with ⟨rfl, _⟩ | ⟨g, off, cap, cur, rfl, hb, hg, _⟩
  · simp [Value.ownBlock] at hk
  · simp [Value.ownBlock] at hk
    subst hk
    exact ⟨hb, lt_of_block hg⟩

theorem Seg.kept {w w' : World} {base : Nat} {e : TypeId} {v : Value} {xs : List Value} (h : Seg w base e v xs) {S : Nat → Prop} (hk : Keeps S w w') (hn : ∀ k, v.ownBlock = some k → ¬ S k) : Seg w' base e v xs := by
  rcases h with h | ⟨g, off, cap, cur, rfl, hb, hg, rest⟩
  · exact .inl h
  · exact .inr ⟨g, off, cap, cur, rfl, hb, hk.heap hg (hn g rfl), rest⟩
theorem Seg.below {w w' : World} {base : Nat} {e : TypeId} {v : Value} {xs : List Value} (h : Seg w base e v xs) (hb : Below w.heap.size w w') : Seg w' base e v xs :=
  h.kept (S := fun _ => False) (Keeps.of_below hb) (fun _ _ h => h)
theorem Seg.mono {w : World} {base base' : Nat} {e : TypeId} {v : Value} {xs : List Value} (h : Seg w base e v xs) (hb : base' ≤ base) : Seg w base' e v xs := by
  rcases h with h | ⟨g, off, cap, cur, rfl, hg, rest⟩
  · exact .inl h
  · exact .inr ⟨g, off, cap, cur, rfl, by omega, rest⟩

theorem Seg.form {w : World} {base : Nat} {e : TypeId} {v : Value} {xs : List Value} (h : Seg w base e v xs) : ∃ a cap, v = .slice a xs.length cap ∧ xs.length ≤ cap ∧ cap ≤ maxLen ∧ ∀ j u, xs[j]? = some u → ∃ g off, a = some ⟨g, off, none⟩ ∧ w.cell? ⟨g, off + j, none⟩ = some u := by
  rcases h with ⟨rfl, rfl⟩ | ⟨g, off, cap, cur, rfl, hb, hg, hc, hs, hm, hx⟩
  · exact ⟨none, 0, rfl, by simp, by simp [maxLen], fun j u hu => by simp at hu⟩
  · refine ⟨_, cap, rfl, hc, hm, fun j u hu => ⟨g, off, rfl, ?_⟩⟩
    have hj : j < xs.length := (List.getElem?_eq_some_iff.1 hu).1
    rw [cell_of hg, hx j hj, hu]

/-- A cut from the front. -/
theorem Seg.drop {w : World} {base : Nat} {e : TypeId} {g off cap : Nat} {xs : List Value} {n : Nat} (h : Seg w base e (.slice (some ⟨g, off, none⟩) n cap) xs) (k : Nat) (hk : k ≤ n) :
    Seg w base e (.slice (if cap = k then some ⟨g, off, none⟩ else some ⟨g, off + k, none⟩) (n - k) (cap - k)) (xs.drop k) := by
  rcases h with ⟨h, _⟩ | ⟨g', off', cap', cur, hv, hb, hg, hc, hs, hm, hx⟩
  · cases h
  · injection hv with h1 h2 h3
    injection h1 with h1
    injection h1 with h1 h4
    subst h1 h2 h3 h4
    by_cases hck : cap = k
    · rw [if_pos hck]
      have hn : xs.length = k := by omega
      refine .inr ⟨g, off, cap - k, cur, by simp, hb, hg, by simp; omega, by omega, by omega, fun j hj => by simp at hj; omega⟩
    · rw [if_neg hck]
      refine .inr ⟨g, off + k, cap - k, cur, by simp, hb, hg, by simp; omega, by omega, by omega, fun j hj => ?_⟩
      simp only [List.length_drop] at hj
      rw [Nat.add_assoc, hx (k + j) (by omega), List.getElem?_drop]

section
variable {P : Program} (w : World)

theorem seg_room {base : Nat} {e : TypeId} {g off cap : Nat} {cur : Array Value} {xs news : List Value} (hb : base ≤ g) (hg : w.heap[g]? = some (.cells cur e (0, 0))) (hm : cap ≤ maxLen)
    (hc : xs.length + news.length ≤ cap) (hs : off + cap ≤ cur.size) (hx : ∀ j, j < xs.length → cur[off + j]? = xs[j]?) :
    Seg (w.setRow g (cur.toList.take (off + xs.length) ++ news ++ cur.toList.drop (off + xs.length + news.length)).toArray) base e (.slice (some ⟨g, off, none⟩) (xs.length + news.length) cap) (xs ++ news) ∧
    Keeps (fun k => some k = (Value.slice (some ⟨g, off, none⟩) xs.length cap).ownBlock) w (w.setRow g (cur.toList.take (off + xs.length) ++ news ++ cur.toList.drop (off + xs.length + news.length)).toArray) := by
  refine ⟨.inr ⟨g, off, cap, _, by simp, hb, setRow_heap w g cur _ e _ hg, by simpa using hc, ?_, hm, fun j hj => ?_⟩, ⟨rfl, rfl, rfl, by simp [World.setRow], fun k _ hk => setRow_other w g k _ (fun e => hk (by simp [Value.ownBlock, e]))⟩⟩
  · simp only [List.size_toArray, List.length_append, List.length_take, List.length_drop, Array.length_toList]
    omega
  · simp only [List.length_append] at hj
    rw [List.getElem?_toArray, List.append_assoc]
    by_cases hjx : j < xs.length
    · rw [List.getElem?_append_left (by simp; omega), List.getElem?_take_of_lt (by omega), List.getElem?_append_left hjx]
      simpa using hx j hjx
    · have e1 : (cur.toList.take (off + xs.length)).length = off + xs.length := by simp; omega
      rw [List.getElem?_append_right (by omega), e1, List.getElem?_append_left (by omega), List.getElem?_append_right (by omega)]
      congr 1
      omega

theorem seg_grow {base : Nat} {e : TypeId} {xs news : List Value} (need cap : Nat) (zs : Array Value) (hbase : base ≤ w.heap.size) (hn : need = xs.length + news.length) (hge : need ≤ cap) (hm : cap ≤ maxLen) (hz : zs.size = cap - need) (row : Nat → Prop) :
    Seg (w.drew.alloc (.cells (xs.toArray ++ news.toArray ++ zs) e)) base e (.slice (some ⟨w.heap.size, 0, none⟩) need cap) (xs ++ news) ∧
    Keeps row w (w.drew.alloc (.cells (xs.toArray ++ news.toArray ++ zs) e)) := by
  refine ⟨.inr ⟨w.heap.size, 0, cap, _, by simp [hn], hbase, heap_alloc_new w.drew _, by simp; omega, by simp [hz]; omega, hm, fun j hj => ?_⟩, ⟨rfl, rfl, rfl, by simp, fun k hk _ => Below.heap_alloc w.drew _ k hk⟩⟩
  simp only [List.length_append] at hj
  rw [Nat.zero_add, Array.getElem?_append_left (by simp; omega)]
  simp

/-- append(v, s...), s a string. -/
theorem run_append_seg_string (base : Nat) (t u ty e : TypeId) (i : TypeInfo) (ht : P.underlying t = some (.slice e)) (hu : P.underlying u = some .string) (hi : P.info? e = some i) (hz : i.zero = some (.int .u8 0))
    (hsize : i.size = 1) (hby : i.bytes = 1) (v : Value) (xs : List Value) (hown : Seg w base e v xs) (s : ByteArray)
    (h47 : xs.length + s.size ≤ 140737488355328) (hbase : base ≤ w.heap.size) :
    ∃ v' w', (Builtin.append_ #[t, u] ty #[v, .string s]).run P w = .ok v' w' ∧ Seg w' base e v' (xs ++ strCells s) ∧ Keeps (fun k => some k = v.ownBlock) w w' ∧ (v'.ownBlock = v.ownBlock ∨ v'.ownBlock = some w.heap.size) := by
  have hml : (140737488355328 : Nat) ≤ maxLen := by simp [maxLen]
  have hz1 : (Value.int IntKind.u8 0).cells.size = 1 := rfl
  rcases hown with ⟨rfl, rfl⟩ | ⟨g, off, cap, cur, rfl, hbg, hg, hnc, hcs, hcm, hx⟩
  · by_cases hm : s.size = 0
    · have hn : strCells s = [] := List.eq_nil_of_length_eq_zero (by rw [strCells_length]; exact hm)
      refine ⟨.slice none 0 0, w, ?_, by rw [hn]; exact Seg.nil w base e, Keeps.refl _ _, .inl rfl⟩
      have hf := run_firstCells_string (P := P) w 1 s
      rw [hm] at hf
      simp [Builtin.append_, run_underlying ht, run_underlying hu, sizeOf, typeInfo, hi, hsize, Builtin.lenOf, hm, hf]
    · have hr := run_append_nil_string (P := P) w t u ty e i (.int .u8 0) ht hu hi hz s (by omega) (by simp at h47; omega) (by rw [hby]; simp at h47; omega)
      have e1 : (s.data.map fun b => Value.int .u8 b.toNat) = (strCells s).toArray := by
        apply Array.ext'
        simp [strCells]
      rw [e1] at hr
      have hgr := seg_grow w (base := base) (e := e) (xs := []) (news := strCells s) s.size (grownCap w s.size 0 e) (Builtin.zeroCells (Value.int .u8 0).cells (grownCap w s.size 0 e - s.size)) hbase (by simp [strCells_length])
        (grownCap_ge w s.size 0 e) (grownCap_le_maxLen w s.size 0 e (by simp at h47; omega)) (by rw [size_zeroCells, hz1, Nat.mul_one]) (fun k => some k = (Value.slice none 0 0).ownBlock)
      simp only [Array.empty_append, List.nil_append] at hgr
      exact ⟨_, _, hr, hgr.1, hgr.2, .inr rfl⟩
  · by_cases hroom : xs.length + s.size ≤ cap
    · have hf := run_firstCells_string (P := P) w 1 s
      have hst := run_storeCells_at P g (off + xs.length) e (strCells s) 0 cur w hg (by simp [strCells_length]; omega) (strCells_oneCell s)
      simp only [Nat.add_zero, strCells_length] at hst
      have hadd : (⟨g, off, none⟩ : Addr).add xs.length = ⟨g, off + xs.length, none⟩ := by
        unfold Addr.add
        split
        · rename_i h0
          rw [h0, Nat.add_zero]
        · rfl
      have hr : (Builtin.append_ #[t, u] ty #[.slice (some ⟨g, off, none⟩) xs.length cap, .string s]).run P w =
          .ok (.slice (some ⟨g, off, none⟩) (xs.length + s.size) cap) (w.setRow g (cur.toList.take (off + xs.length) ++ strCells s ++ cur.toList.drop (off + xs.length + s.size)).toArray) := by
        simp [Builtin.append_, run_underlying ht, run_underlying hu, sizeOf, typeInfo, hi, hsize, Builtin.lenOf, hroom, hf, hadd, hst]
      have h := seg_room w (xs := xs) (news := strCells s) hbg hg hcm (by rw [strCells_length]; exact hroom) hcs hx
      rw [strCells_length] at h
      exact ⟨_, _, hr, h.1, h.2, .inl rfl⟩
    · have holds : ∀ j u, xs[j]? = some u → w.cell? ((⟨g, off, none⟩ : Addr).add j) = some u := by
        intro j u hu'
        have hj : j < xs.length := (List.getElem?_eq_some_iff.1 hu').1
        have hadd : (⟨g, off, none⟩ : Addr).add j = ⟨g, off + j, none⟩ := by
          unfold Addr.add
          split
          · rename_i h0
            rw [h0, Nat.add_zero]
          · rfl
        rw [hadd, cell_of hg, hx j hj, hu']
      have hr := run_append_grow_string (P := P) w t u ty e i (.int .u8 0) ht hu hi hz ⟨g, off, none⟩ xs.length cap xs (by rw [hsize]; simp) holds s (by omega) (by omega) (by rw [hby]; exact growslice_fits (by omega) (by omega))
      have hgr := seg_grow w (base := base) (e := e) (xs := xs) (news := strCells s) (xs.length + s.size) (grownCap w (xs.length + s.size) cap e) (Builtin.zeroCells (Value.int .u8 0).cells (grownCap w (xs.length + s.size) cap e - (xs.length + s.size))) hbase (by simp [strCells_length])
        (grownCap_ge w _ cap e) (grownCap_le_maxLen w _ cap e (by omega)) (by rw [size_zeroCells, hz1, Nat.mul_one]) (fun k => some k = (Value.slice (some ⟨g, off, none⟩) xs.length cap).ownBlock)
      exact ⟨_, _, hr, hgr.1, hgr.2, .inr rfl⟩

/-- The operation, for the walk. -/
theorem wpList_append_seg_string {ops : Array Oper} {rest : List Oper} {o : Oper} {a : Act} {Q : Exit → Act → World → Prop} (hgd : o.guard = none) (sl x : Operand) (t u : TypeId)
    (ho : o.op = .call { callee := .builtin .append, args := #[sl, x], argTypes := #[t, u] })
    (base : Nat) (e : TypeId) (i : TypeInfo) (ht : P.underlying t = some (.slice e)) (hu : P.underlying u = some .string) (hi : P.info? e = some i) (hz : i.zero = some (.int .u8 0)) (hsize : i.size = 1) (hby : i.bytes = 1)
    (v : Value) (xs : List Value) (hs : a.eval sl = v) (hown : Seg w base e v xs) (s : ByteArray) (hx : a.eval x = .string s)
    (h47 : xs.length + s.size ≤ 140737488355328) (hbase : base ≤ w.heap.size)
    (h : ∀ v' w', Seg w' base e v' (xs ++ strCells s) → Keeps (fun k => some k = v.ownBlock) w w' → (v'.ownBlock = v.ownBlock ∨ v'.ownBlock = some w.heap.size) → wpList P ops Q rest (a.put o.dst v') w') : wpList P ops Q (o :: rest) a w := by
  obtain ⟨v', w', hr, h1, h2, h3⟩ := run_append_seg_string (P := P) w base t u o.type e i ht hu hi hz hsize hby v xs hown s h47 hbase
  exact wpList_append_run w hgd sl x t u ho v (.string s) hs hx v' w' hr (h v' w' h1 h2 h3)

end
end Go.Proofs.Ytkkoldfaplonaaa
