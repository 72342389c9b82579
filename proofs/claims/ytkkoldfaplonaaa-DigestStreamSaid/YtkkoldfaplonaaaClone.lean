/- The contract of (*digest.Hash).Clone. -/
import Derived.Test.YtkkoldfaplonaaaHash
namespace Go.Proofs.Ytkkoldfaplonaaa
open Go.RowKit

/-- What Clone gives: a hash in new memory with the same state. -/
def ClonePost (w : World) (st : St) (tk : Nat) : Ending → World → Prop := fun e w' =>
  ∃ b v, e = .returned (.pointer (some ⟨b, 0, none⟩)) ∧ w.heap.size ≤ b ∧ StAt w' w.heap.size b 69 [.int .i64 (tk : Int)] st v ∧ Below w.heap.size w w'

set_option maxRecDepth 100000 in
set_option maxHeartbeats 2000000 in
theorem clone_any (base b : Nat) (T : TypeId) (tk : Nat) (st : St) (v : Value) (w : World) (h : StAt w base b T [.int .i64 (tk : Int)] st v) (hr : st.rest.length ≤ 64) :
    Calls Try.prog 25 #[.pointer (some ⟨b, 0, none⟩)] w (ClonePost w st tk) := by
  have i0 : (Try.prog.info? 5).map (fun i => (i.zero, i.size, i.bytes)) = some (some (.int .u8 0), 1, 1) := by kernel_rfl
  obtain ⟨i5, hi5, hz5, hs5, hb5⟩ := info_parts i0
  obtain ⟨c, rest, n⟩ := st
  obtain ⟨e0, e1, e2, e3, e4, e5, e6, e7, hc⟩ := list8 h.len
  simp only at hc
  subst hc
  obtain ⟨a, cap, rfl, -, -, -⟩ := h.seg.form
  obtain ⟨m, hm⟩ : ∃ m, m = (n8s (⟨[e0, e1, e2, e3, e4, e5, e6, e7], rest, n⟩ : St).rest).length := ⟨_, rfl⟩
  have hml : m = rest.length := by rw [hm, n8s_length]
  rw [← hm] at h
  have hblk := h.blk
  have y0 : w.cell? ⟨b, 0, none⟩ = some (.int .u32 (n32 e0)) := by rw [cell_of hblk]; rfl
  have y1 : w.cell? ⟨b, 1, none⟩ = some (.int .u32 (n32 e1)) := by rw [cell_of hblk]; rfl
  have y2 : w.cell? ⟨b, 2, none⟩ = some (.int .u32 (n32 e2)) := by rw [cell_of hblk]; rfl
  have y3 : w.cell? ⟨b, 3, none⟩ = some (.int .u32 (n32 e3)) := by rw [cell_of hblk]; rfl
  have y4 : w.cell? ⟨b, 4, none⟩ = some (.int .u32 (n32 e4)) := by rw [cell_of hblk]; rfl
  have y5 : w.cell? ⟨b, 5, none⟩ = some (.int .u32 (n32 e5)) := by rw [cell_of hblk]; rfl
  have y6 : w.cell? ⟨b, 6, none⟩ = some (.int .u32 (n32 e6)) := by rw [cell_of hblk]; rfl
  have y7 : w.cell? ⟨b, 7, none⟩ = some (.int .u32 (n32 e7)) := by rw [cell_of hblk]; rfl
  have y8 : w.cell? ⟨b, 8, none⟩ = some (.slice a m cap) := by rw [cell_of hblk]; rfl
  have y9 : w.cell? ⟨b, 9, none⟩ = some (.int .u64 (n : Int)) := by rw [cell_of hblk]; rfl
  have y10 : w.cell? ⟨b, 10, none⟩ = some (.int .i64 (tk : Int)) := by rw [cell_of hblk]; rfl
  have H := Lib.hid h
  have Hm := Lib.hid hml
  have Hr := Lib.hid hr
  have Hi := Lib.hid i0
  clear h hm hml hr i0 hblk
  go_enter Try.func25, Try.ntmps25
  go_upto_region 2 with (fail)
  obtain ⟨b2, hb2⟩ : ∃ b2, b2 = w.heap.size := ⟨_, rfl⟩
  have hbl : b < w.heap.size := lt_of_block H.out.blk
  refine wp_gen (fun W => Below w.heap.size w W ∧ W.heap[b2]? = some (.cells (stCells [e0, e1, e2, e3, e4, e5, e6, e7] (.slice a m cap) n ++ [Value.int .i64 (tk : Int)]).toArray 69 (0, 0))) ?_ ?_
  · exact ⟨(Below.refl _ _).alloc (Nat.le_refl _) _, by rw [hb2]; exact heap_new w _⟩
  rintro W ⟨hW, hs2⟩
  have z8 : W.cell? ⟨b, 8, none⟩ = some (.slice a m cap) := (hW.cell (p := ⟨b, 8, none⟩) hbl).trans y8
  have hsegW := H.out.seg.below hW
  have hb2w : w.heap.size ≤ b2 := by omega
  rw [← hb2]
  have Hb2 := Lib.hid hb2
  clear y0 y1 y2 y3 y4 y5 y6 y7 y8 y9 y10 hb2
  obtain ⟨v1, w1, hr1, hg1, hk1, hown1⟩ := run_append_seg (P := Try.prog) W w.heap.size 50 50 50 5 i5 (.int .u8 0) Try.underlying50 hi5 hz5 hs5 rfl (.slice none 0 0) [] (Seg.nil _ _ _) (.slice a m cap) m (n8s rest)
    (by have h1 := Seg.src (P := Try.prog) W (tx := 50) hsegW Try.underlying50 (by simp [n8s, Value.oneCell'])
        rw [n8s_length] at h1
        rw [Hm.out] at h1 ⊢
        exact h1) (by have := Hr.out; rw [Hm.out]; simp [maxLen] at *; omega) (by have := Hr.out; rw [Hm.out, hb5]; simp at *; omega) hW.size
  have hk2 : Below W.heap.size W w1 := hk1.below (Nat.le_refl _) (fun k hk => by simp [Value.ownBlock] at hk)
  have hs3 := heap_below hs2 hk2 (lt_of_block hs2)
  have hf8 := frozen_of hs3 8
  have z18 : w1.cell? ⟨b2, 8, none⟩ = some (.slice a m cap) := st_cell8 hs3 rfl
  have hne : ∀ g, v1.ownBlock = some g → g ≠ b2 := fun g hg e => by
    subst e
    rcases hown1 with h | h
    · rw [hg] at h
      simp [Value.ownBlock] at h
    · rw [hg] at h
      injection h with h
      have := lt_of_block hs2
      omega
  have Hr1 := Lib.hid hr1
  have Hg1 := Lib.hid hg1
  have Hs3 := Lib.hid hs3
  have Hk := Lib.hid (hW.trans (hk2.mono hW.size))
  have Hne := Lib.hid hne
  obtain ⟨a1, cap1, hv1, -⟩ := hg1.form
  simp only [List.nil_append] at hv1
  generalize (n8s rest).length = m1 at hv1
  subst hv1
  clear hW hs2 hsegW hr1 hg1 hk1 hk2 hs3 hne hown1
  go_wp2_with (at_builtin; refine Lib.wpList_append_run _ rfl (.const (.slice none 0 0)) (.tmp 11) 50 50 rfl _ _ rfl rfl _ _ Hr1.out ?_)
  go_ret
  have h1 := heap_set Hs3.out 8 (.slice a1 m1 cap1)
  rw [st_set8 rfl] at h1
  exact ⟨b2, .slice a1 m1 cap1, rfl, hb2w, ⟨h1, Hg1.out.kept (S := fun k => k = b2) (keeps_set _ _ _ _) Hne.out, Hne.out, rfl⟩, Hk.out.setCell (p := ⟨b2, 8, none⟩) hb2w _⟩

end Go.Proofs.Ytkkoldfaplonaaa
