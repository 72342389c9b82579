/- The contracts of the reference's Sum and Keyed. -/
import Derived.Test.YtkkoldfaplonaaaSums
import Derived.Lib.BufferWrite
import Derived.Lib.SlBuf
namespace Go.Proofs.Ytkkoldfaplonaaa
open Go.RowKit

theorem dsumr_any (s : ByteArray) (w : World) (hs : s.size ≤ 140737488355328) :
    Calls Try.prog 13 #[.string s] w (Ret (.string (S8 (dsum s.data.toList))) w) := by
  have hC : ∀ w, Calls Try.prog 29 #[.int .i64 0, .string s] w (Ret (.string (S8 (dsum s.data.toList))) w) := fun w => sumr_any 0 s w (by omega) hs
  have HC := Lib.hid hC
  clear hC
  go_enter Try.func13, Try.ntmps13
  go_wp2_with (go_at_call 29; (with_reducible refine (HC.out _).mono ?_); rintro e w1 ⟨rfl, hb⟩)
  go_ret
  exact ⟨rfl, hb⟩

theorem keyedr_bad (key s : ByteArray) (w : World) (hk : 32 < key.size) :
    Calls Try.prog 15 #[.string key, .string s] w (Ret (.tuple #[.string ⟨#[]⟩, .int .i64 1]) w) := by
  have hkI : (32 : Int) < (key.size : Int) := by omega
  go_enter Try.func15, Try.ntmps15
  go_wp2
  go_ret2
  exact ⟨rfl, Below.refl _ _⟩

theorem keyedr_empty (key s : ByteArray) (w : World) (hk : key.size = 0) (hs : s.size ≤ 140737488355328) :
    Calls Try.prog 15 #[.string key, .string s] w (Ret (.tuple #[.string (S8 (keyed key.data.toList s.data.toList)), .int .i64 0]) w) := by
  have hkI : ¬ (32 : Int) < (key.size : Int) := by omega
  have hke := empty_of key hk
  have hd : key.data.toList = [] := List.eq_nil_of_length_eq_zero (by simpa using hk)
  rw [hd]
  have HC := Lib.hid (fun w => dsumr_any s w hs)
  clear hd
  go_enter Try.func15, Try.ntmps15
  go_wp2_with (go_at_call 13; (with_reducible refine (HC.out _).mono ?_); rintro e w1 ⟨rfl, hb⟩)
  go_ret2
  exact ⟨rfl, hb⟩

set_option maxRecDepth 100000 in
theorem keyedr_full (key s : ByteArray) (w : World) (h0 : key.size ≠ 0) (hk : key.size ≤ 32) (hs : s.size ≤ 140737488351232) :
    Calls Try.prog 15 #[.string key, .string s] w (Ret (.tuple #[.string (S8 (keyed key.data.toList s.data.toList)), .int .i64 0]) w) := by
  have hkI : ¬ (32 : Int) < (key.size : Int) := by omega
  have hke := nonempty_of key h0
  have hmk : ∀ w, (Instr.makeSlice 50 (.int .i64 64) (.int .i64 64)).run Try.prog w = .ok (.slice (some ⟨w.heap.size, 0, none⟩) 64 64) (w.alloc (.cells (n8s (List.replicate 64 0)).toArray 5)) := fun _ => by kernel_rfl
  have hC : ∀ w, Calls Try.prog 29 #[.int .i64 (key.size : Int), .string (S8 (padKey key.data.toList) ++ s)] w (Ret (.string (S8 (keyed key.data.toList s.data.toList))) w) := by
    intro w
    have hl : (padKey key.data.toList).length ≤ 64 := length_padKey _ (by simp; omega)
    have h1 := sumr_any key.size (S8 (padKey key.data.toList) ++ s) w (by omega) (by
      rw [ByteArray.size_append]
      have : (S8 (padKey key.data.toList)).size = (padKey key.data.toList).length := by
        show (padKey key.data.toList).toArray.size = _
        simp
      omega)
    have e : (S8 (padKey key.data.toList) ++ s).data.toList = padKey key.data.toList ++ s.data.toList := by simp [S8]
    rw [e] at h1
    unfold keyed start0 take1
    rw [show key.data.toList.length = key.size from by simp]
    exact h1
  have HC := Lib.hid hC
  clear hC
  go_enter Try.func15, Try.ntmps15
  go_upto_region 6 with (fail)
  clear hmk
  obtain ⟨b, hb⟩ : ∃ b, b = w.heap.size := ⟨_, rfl⟩
  refine wp_gen (fun W => Below w.heap.size w W ∧ W.heap[b]? = some (.cells (n8s (List.replicate 64 0)).toArray 5 (0, 0))) ?_ ?_
  · exact ⟨(Below.refl _ _).alloc (Nat.le_refl _) _, by rw [hb]; exact heap_new _ _⟩
  rintro W ⟨hW, hs1⟩
  have hbw : w.heap.size ≤ b := by omega
  rw [← hb]
  clear hb
  have hrun := Lib.run_copy_row_string (P := Try.prog) W 50 9 3 5 b 0 64 64 key _ 5 Try.underlying50 (by kernel_rfl) hs1 (by omega) (by simp [n8s]; omega)
  have hrow : (n8s (List.replicate 64 0)).toArray.toList.take 0 ++ Lib.byteCells key.data.toList ++ (n8s (List.replicate 64 0)).toArray.toList.drop (0 + key.size) = n8s (padKey key.data.toList) := by
    rw [padKey_cons key h0, ← n8s_append, n8s_zeros, n8s_zeros, List.take_zero, List.nil_append, Nat.zero_add, List.toList_toArray, List.drop_replicate]
    rfl
  rw [hrow] at hrun
  have hs2 := setRow_heap W b _ (n8s (padKey key.data.toList)).toArray _ _ hs1
  have hpl : (n8s (padKey key.data.toList)).length = 64 := by rw [n8s_length, padKey_cons key h0]; simp; omega
  have hg2 : Seg (W.setRow b (n8s (padKey key.data.toList)).toArray) w.heap.size 5 (.slice (some ⟨b, 0, none⟩) 64 64) (n8s (padKey key.data.toList)) :=
    .inr ⟨b, 0, 64, _, by rw [hpl], hbw, hs2, by rw [hpl]; exact Nat.le_refl _, by simp [hpl], by decide, fun j hj => by simp⟩
  have hcv := run_convert_seg hg2
  have hW2 : Below w.heap.size w (W.setRow b (n8s (padKey key.data.toList)).toArray) := below_setRow hW hbw _
  have HW2 := Lib.hid hW2
  clear hrow hs2 hpl hg2 hW2 hs1 hW
  go_upto_region 7 with (fail)
  clear hrun
  generalize W.setRow b (n8s (padKey key.data.toList)).toArray = V at hcv HW2 ⊢
  have hS8 : (S8 (padKey key.data.toList)).size ≤ 64 := by
    show (padKey key.data.toList).toArray.size ≤ 64
    rw [List.size_toArray]
    exact length_padKey _ (by simp; omega)
  have hcat : ¬ (9223372036854775807 < (((S8 (padKey key.data.toList)).size : Int) + (s.size : Int))) := by omega
  go_wp2_with (go_at_call 29; (with_reducible refine (HC.out _).mono ?_); rintro e w1 ⟨rfl, hb⟩)
  go_ret2
  exact ⟨rfl, below_then HW2.out HW2.out.size hb⟩

end Go.Proofs.Ytkkoldfaplonaaa
