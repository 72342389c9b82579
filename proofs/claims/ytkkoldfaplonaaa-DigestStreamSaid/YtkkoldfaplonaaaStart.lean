/- The contract of digest.start. -/
import Derived.Test.YtkkoldfaplonaaaTake
import Derived.Test.YtkkoldfaplonaaaSegs
namespace Go.Proofs.Ytkkoldfaplonaaa
open Go.RowKit

theorem key_word (k : Nat) (hk : k ≤ 32) : n32 (16842784 + 256 * UInt32.ofNat k) = 16842784 + 256 * (k : Int) := by
  have h : ∀ j, j < 33 → n32 (16842784 + 256 * UInt32.ofNat j) = 16842784 + 256 * (j : Int) := by decide +kernel
  exact h k (by omega)
theorem chain0_start (k : Nat) (hk : k ≤ 32) : bits .xor .u32 (n32 1779033703) (16842784 + 256 * (k : Int)) = n32 (0x6a09e667 ^^^ (16842784 + 256 * UInt32.ofNat k)) := by
  rw [← key_word k hk, u32_xor_n]

/-- What start gives: a state whose rest is new memory. -/
def StartPost (w : World) (st : St) : Ending → World → Prop := fun e w' =>
  ∃ v, e = .returned (.agg (stCells st.chain v st.count).toArray) ∧ Seg w' w.heap.size 5 v (n8s st.rest) ∧ Below w.heap.size w w'

theorem padKey_nil (key : ByteArray) (h : key.size = 0) : padKey key.data.toList = [] := by
  have : key.data.toList = [] := List.eq_nil_of_length_eq_zero (by simpa using h)
  rw [this]
  rfl
theorem padKey_cons (key : ByteArray) (h : key.size ≠ 0) : padKey key.data.toList = key.data.toList ++ List.replicate (64 - key.size) 0 := by
  unfold padKey
  rw [if_neg (fun e => h (by have : key.data.toList.length = 0 := by rw [e]; rfl
                             simpa using this))]
  simp
theorem n8s_zeros (n : Nat) : n8s (List.replicate n 0) = List.replicate n (.int .u8 0) := by simp [n8s, n8]

theorem empty_of (s : ByteArray) (h : s.size = 0) : s.toList.isEmpty = true := by
  rw [Lib.toList_data]
  have : s.data.toList = [] := List.eq_nil_of_length_eq_zero (by simpa using h)
  rw [this]
  rfl
theorem nonempty_of (s : ByteArray) (h : s.size ≠ 0) : s.toList.isEmpty = false := by
  rw [Lib.toList_data]
  have : s.data.toList.length ≠ 0 := by simpa using h
  cases hl : s.data.toList with
  | nil => rw [hl] at this; exact absurd rfl this
  | cons a l => rfl
theorem pad_cells (key : ByteArray) (h : key.size ≠ 0) : Lib.strCells key ++ List.replicate (64 - key.size) (.int .u8 0) = n8s (padKey key.data.toList) := by
  rw [padKey_cons key h, strCells_n8s, ← n8s_zeros, n8s_append]

set_option maxRecDepth 100000 in
set_option maxHeartbeats 2000000 in
theorem start_any (key : ByteArray) (w : World) (hk : key.size ≤ 32) :
    Calls Try.prog 26 #[.string key] w (StartPost w (start0 key.data.toList)) := by
  have i0 : (Try.prog.info? 5).map (fun i => (i.zero, i.size, i.bytes)) = some (some (.int .u8 0), 1, 1) := by kernel_rfl
  obtain ⟨i5, hi5, hz5, hs5, hb5⟩ := info_parts i0
  have hini := fun w => initial_any w
  simp only [uAgg, u32s, iv, List.map] at hini
  have Hini := Lib.hid hini
  clear hini i0
  go_enter Try.func26, Try.ntmps26
  go_upto_region 3 with (go_at_call 31; (with_reducible refine (Hini.out _).mono ?_); rintro e w1 ⟨rfl, hb⟩)
  have hx0 := chain0_start key.size hk
  rw [hx0]
  clear hx0
  refine wp_gen (fun W => Below w.heap.size w W ∧ (∃ z, W.heap[w.heap.size]? = some (.cells z 52 (0, 0)) ∧ z.size = 10) ∧ W.heap[w1.heap.size]? = some (.cells (stCells (chain0 key.size) (.slice none 0 0) 0).toArray 52 (0, 0))) ?_ ?_
  · have hb1 := below_then ((Below.refl w.heap.size w).alloc (Nat.le_refl _) _) (by simp) hb
    exact ⟨hb1.alloc hb1.size _, ⟨_, heap_old (heap_below (heap_new w _) hb (by simp)) _, rfl⟩, heap_new _ _⟩
  have hlt1 : w.heap.size < w1.heap.size := by have := hb.size; simp at this; omega
  rintro W ⟨hW, ⟨z, hz, hzs⟩, hs⟩
  obtain ⟨b0, hb0⟩ : ∃ b, b = w.heap.size := ⟨_, rfl⟩
  obtain ⟨b1, hb1⟩ : ∃ b, b = w1.heap.size := ⟨_, rfl⟩
  rw [← hb1] at hs hlt1 ⊢
  rw [← hb0] at hz hlt1 ⊢
  clear hb hb1 Hini
  obtain ⟨c, hc⟩ : ∃ c, c = chain0 key.size := ⟨_, rfl⟩
  rw [← hc] at hs
  have hcl : c.length = 8 := by rw [hc]; rfl
  have Hc := Lib.hid hc
  have Hb0 := Lib.hid hb0
  have hb0w : w.heap.size ≤ b0 := by rw [hb0]; exact Nat.le_refl _
  have hb1w : w.heap.size ≤ b1 := by omega
  clear hc hb0
  obtain ⟨e0, e1, e2, e3, e4, e5, e6, e7, rfl⟩ := list8 hcl
  clear hcl
  by_cases h0 : key.size = 0
  · have hke := empty_of key h0
    have hs6 := hs
    have hz6 := hz
    have q0 : W.cell? ⟨b1, 0, none⟩ = some (.int .u32 (n32 e0)) := by rw [cell_of hs6]; rfl
    have q1 : W.cell? ⟨b1, 1, none⟩ = some (.int .u32 (n32 e1)) := by rw [cell_of hs6]; rfl
    have q2 : W.cell? ⟨b1, 2, none⟩ = some (.int .u32 (n32 e2)) := by rw [cell_of hs6]; rfl
    have q3 : W.cell? ⟨b1, 3, none⟩ = some (.int .u32 (n32 e3)) := by rw [cell_of hs6]; rfl
    have q4 : W.cell? ⟨b1, 4, none⟩ = some (.int .u32 (n32 e4)) := by rw [cell_of hs6]; rfl
    have q5 : W.cell? ⟨b1, 5, none⟩ = some (.int .u32 (n32 e5)) := by rw [cell_of hs6]; rfl
    have q6 : W.cell? ⟨b1, 6, none⟩ = some (.int .u32 (n32 e6)) := by rw [cell_of hs6]; rfl
    have q7 : W.cell? ⟨b1, 7, none⟩ = some (.int .u32 (n32 e7)) := by rw [cell_of hs6]; rfl
    have q8 : W.cell? ⟨b1, 8, none⟩ = some (.slice none 0 0) := by rw [cell_of hs6]; rfl
    have q9 : W.cell? ⟨b1, 9, none⟩ = some (.int .u64 0) := by rw [cell_of hs6]; rfl
    have Hs6 := Lib.hid hs6
    clear hs6
    go_wp2_with (refine wpList_store_row rfl 52 _ _ rfl b0 #[.int .u32 (n32 e0), .int .u32 (n32 e1), .int .u32 (n32 e2), .int .u32 (n32 e3), .int .u32 (n32 e4), .int .u32 (n32 e5), .int .u32 (n32 e6), .int .u32 (n32 e7), (.slice none 0 0), .int .u64 0] rfl rfl 52 _ hz6 (by kernel_rfl) hzs (by simp [Value.oneCell']) ?_)
    (try simp only [Exit.inBlock, Exit.then])
    refine bodyPost_ret (results_cell_row rfl _ _ b0 52 #[.int .u32 (n32 e0), .int .u32 (n32 e1), .int .u32 (n32 e2), .int .u32 (n32 e3), .int .u32 (n32 e4), .int .u32 (n32 e5), .int .u32 (n32 e6), .int .u32 (n32 e7), (.slice none 0 0), .int .u64 0] (0, 0) _ rfl (setRow_heap _ _ _ _ _ _ hz6) Try.underlying52 rfl (by kernel_rfl)) rfl ?_
    refine ⟨(.slice none 0 0), ?_, (by show Seg _ _ _ _ (n8s (padKey key.data.toList)); rw [padKey_nil key h0]; exact Seg.nil _ _ _), below_setRow hW hb0w _⟩
    show _ = Ending.returned (.agg (stCells (chain0 key.data.toList.length) (.slice none 0 0) 0).toArray)
    rw [show key.data.toList.length = key.size from by simp, ← Hc.out]
    rfl
  · have hke := nonempty_of key h0
    have q8 : W.cell? ⟨b1, 8, none⟩ = some (.slice none 0 0) := by rw [cell_of hs]; rfl
    have z8 := frozen_of hs 8
    have hbW : b1 < W.heap.size := lt_of_block hs
    have hWsz : w.heap.size ≤ W.heap.size := hW.size
    have Hs := Lib.hid hs
    have Hz := Lib.hid hz
    have HW := Lib.hid hW
    clear hs hz hW
    go_upto_region 5 with (at_builtin; refine wpList_append_seg_string _ rfl (.tmp 20) (.tmp 21) 50 9 rfl W.heap.size 5 i5 Try.underlying50 Try.underlying9 hi5 hz5 hs5 hb5 (.slice none 0 0) [] rfl (Seg.nil _ _ _) key rfl (by simp; omega) (Nat.le_refl _) ?_; intro v1 w2 hseg1 hk1 hown1; have r8 := (cell_of (hk1.heap Hs.out (by intro h; cases h)) 8).trans (show _ = some (Value.slice none 0 0) from rfl); have y8 := frozen_of (hk1.heap Hs.out (by intro h; cases h)) 8; have Hseg1 := Lib.hid hseg1; have Hk1 := Lib.hid hk1; obtain ⟨a1, cap1, hv1, -, -, -⟩ := hseg1.form; clear hseg1 hk1 hown1; generalize ([] ++ Lib.strCells key).length = l1 at hv1; subst hv1)
    obtain ⟨v1, hv1⟩ : ∃ v1, v1 = Value.slice a1 l1 cap1 := ⟨_, rfl⟩
    rw [← hv1] at Hseg1 ⊢
    clear hv1
    refine wp_gen (fun W5 => Below w.heap.size w W5 ∧ W5.heap[b0]? = some (.cells z 52 (0, 0)) ∧ W5.heap[b1]? = some (.cells (stCells [e0, e1, e2, e3, e4, e5, e6, e7] v1 0).toArray 52 (0, 0)) ∧ Seg W5 W.heap.size 5 v1 (Lib.strCells key) ∧ W.heap.size ≤ W5.heap.size) ?_ ?_
    · have hkW : Keeps (fun k => k = b1) W (w2.setCell ⟨b1, 8, none⟩ v1) := (Hk1.out.weak (T := fun k => k = b1) (fun k _ h => by cases h)).trans (keeps_set _ _ _ _)
      refine ⟨HW.out.trans (hkW.below HW.out.size (fun k hk => by omega)), hkW.heap Hz.out (by omega), ?_, ?_, hkW.size⟩
      · have h1 := heap_set (Hk1.out.heap Hs.out (by intro h; cases h)) 8 v1
        simp only [stCells, u32s, List.map, List.cons_append, List.nil_append, List.setIfInBounds_toArray, List.set] at h1
        exact h1
      · have h1 := Hseg1.out
        rw [List.nil_append] at h1
        exact h1.kept (S := fun k => k = b1) (keeps_set _ _ _ _) (fun k hk => by have := (h1.lt k hk).1; omega)
    rintro W5 ⟨hW5, hz5', hs5', hg5, hge5⟩
    clear q8 z8 r8 y8 Hseg1 Hk1 Hs Hz HW
    have hsz64 : ((64 - key.size : Nat) : Int) = 64 - (key.size : Int) := by omega
    obtain ⟨v2, w3, hr2, hseg2, hk2, hown2⟩ := run_append_seg_zeros (P := Try.prog) W5 W.heap.size 50 3 50 5 i5 (.int .u8 0) .i64 .i64 Try.underlying50 Try.underlying3 hi5 hz5 hs5 rfl rfl v1 _ hg5 (64 - key.size) (by omega) (by rw [Lib.strCells_length]; simp [maxLen]; omega) (by rw [hb5, Lib.strCells_length]; omega) hge5
    rw [hsz64] at hr2
    rw [pad_cells key h0] at hseg2
    have hv1b : ∀ k, some k = v1.ownBlock → ¬ (k < W.heap.size) := fun k hk => by have := (hg5.lt k hk.symm).1; omega
    have q8 : W5.cell? ⟨b1, 8, none⟩ = some v1 := by rw [cell_of hs5']; rfl
    have Hr2 := Lib.hid hr2
    clear hr2
    obtain ⟨a2, cap2, hv2, -, -, -⟩ := hseg2.form
    have b1k := hk2.heap hs5' (fun h => hv1b _ h hbW)
    have b0k := hk2.heap hz5' (fun h => hv1b _ h (by omega))
    have r8 : w3.cell? ⟨b1, 8, none⟩ = some v1 := by rw [cell_of b1k]; rfl
    have y8 := frozen_of b1k 8
    have hW3 : Below w.heap.size w w3 := hW5.trans (hk2.below hW5.size (fun k hk => by have := hv1b k hk; omega))
    generalize (n8s (padKey key.data.toList)).length = l2 at hv2
    subst hv2
    have Hs5 := Lib.hid hs5'
    have Hseg2 := Lib.hid hseg2
    have B1k := Lib.hid b1k
    have B0k := Lib.hid b0k
    have HW3 := Lib.hid hW3
    clear hs5' hz5' hg5 hseg2 b1k b0k hW3 hW5 hk2 hown2
    go_upto_region 6 with (at_builtin; refine Lib.wpList_append_run _ rfl (.tmp 25) (.tmp 28) 50 3 rfl _ _ rfl rfl _ _ Hr2.out ?_)
    refine wp_gen (fun W6 => Below w.heap.size w W6 ∧ W6.heap[b0]? = some (.cells z 52 (0, 0)) ∧ W6.heap[b1]? = some (.cells (stCells [e0, e1, e2, e3, e4, e5, e6, e7] (.slice a2 l2 cap2) 0).toArray 52 (0, 0)) ∧ Seg W6 W.heap.size 5 (.slice a2 l2 cap2) (n8s (padKey key.data.toList))) ?_ ?_
    · have hkW : Keeps (fun k => k = b1) w3 (w3.setCell ⟨b1, 8, none⟩ (.slice a2 l2 cap2)) := keeps_set _ _ _ _
      refine ⟨HW3.out.trans (hkW.below HW3.out.size (fun k hk => by omega)), hkW.heap B0k.out (by omega), ?_, ?_⟩
      · have h1 := heap_set B1k.out 8 (.slice a2 l2 cap2)
        simp only [stCells, u32s, List.map, List.cons_append, List.nil_append, List.setIfInBounds_toArray, List.set] at h1
        exact h1
      · exact Hseg2.out.kept hkW (fun k hk => by have := (Hseg2.out.lt k hk).1; omega)
    rintro W6 ⟨hW6, hz6, hs6, hg6⟩
    clear q8 r8 y8 Hr2 B1k B0k HW3 Hs5 Hseg2
    have q0 : W6.cell? ⟨b1, 0, none⟩ = some (.int .u32 (n32 e0)) := by rw [cell_of hs6]; rfl
    have q1 : W6.cell? ⟨b1, 1, none⟩ = some (.int .u32 (n32 e1)) := by rw [cell_of hs6]; rfl
    have q2 : W6.cell? ⟨b1, 2, none⟩ = some (.int .u32 (n32 e2)) := by rw [cell_of hs6]; rfl
    have q3 : W6.cell? ⟨b1, 3, none⟩ = some (.int .u32 (n32 e3)) := by rw [cell_of hs6]; rfl
    have q4 : W6.cell? ⟨b1, 4, none⟩ = some (.int .u32 (n32 e4)) := by rw [cell_of hs6]; rfl
    have q5 : W6.cell? ⟨b1, 5, none⟩ = some (.int .u32 (n32 e5)) := by rw [cell_of hs6]; rfl
    have q6 : W6.cell? ⟨b1, 6, none⟩ = some (.int .u32 (n32 e6)) := by rw [cell_of hs6]; rfl
    have q7 : W6.cell? ⟨b1, 7, none⟩ = some (.int .u32 (n32 e7)) := by rw [cell_of hs6]; rfl
    have q8 : W6.cell? ⟨b1, 8, none⟩ = some (.slice a2 l2 cap2) := by rw [cell_of hs6]; rfl
    have q9 : W6.cell? ⟨b1, 9, none⟩ = some (.int .u64 0) := by rw [cell_of hs6]; rfl
    have Hs6 := Lib.hid hs6
    clear hs6
    go_wp2_with (refine wpList_store_row rfl 52 _ _ rfl b0 #[.int .u32 (n32 e0), .int .u32 (n32 e1), .int .u32 (n32 e2), .int .u32 (n32 e3), .int .u32 (n32 e4), .int .u32 (n32 e5), .int .u32 (n32 e6), .int .u32 (n32 e7), (.slice a2 l2 cap2), .int .u64 0] rfl rfl 52 _ hz6 (by kernel_rfl) hzs (by simp [Value.oneCell']) ?_)
    (try simp only [Exit.inBlock, Exit.then])
    refine bodyPost_ret (results_cell_row rfl _ _ b0 52 #[.int .u32 (n32 e0), .int .u32 (n32 e1), .int .u32 (n32 e2), .int .u32 (n32 e3), .int .u32 (n32 e4), .int .u32 (n32 e5), .int .u32 (n32 e6), .int .u32 (n32 e7), (.slice a2 l2 cap2), .int .u64 0] (0, 0) _ rfl (setRow_heap _ _ _ _ _ _ hz6) Try.underlying52 rfl (by kernel_rfl)) rfl ?_
    refine ⟨(.slice a2 l2 cap2), ?_, ((hg6.kept (S := fun k => k = b0) (keeps_setRow _ _ _) (fun k hk => by have := (hg6.lt k hk).1; omega)).mono hWsz), below_setRow hW6 hb0w _⟩
    show _ = Ending.returned (.agg (stCells (chain0 key.data.toList.length) (.slice a2 l2 cap2) 0).toArray)
    rw [show key.data.toList.length = key.size from by simp, ← Hc.out]
    rfl

end Go.Proofs.Ytkkoldfaplonaaa
