/- The contracts of digest.Sum and digest.Keyed. -/
import Derived.Test.YtkkoldfaplonaaaStSum
namespace Go.Proofs.Ytkkoldfaplonaaa
open Go.RowKit

theorem feed_facts (k : Nat) : ∀ (c : List UInt32) (s : List UInt8) (n : Nat), s.length ≤ k → c.length = 8 → (feed c s n).rest.length ≤ 64 ∧ (feed c s n).count + (feed c s n).rest.length = n + s.length ∧ (feed c s n).chain.length = 8 := by
  induction k with
  | zero =>
    intro c s n h hc
    rw [feed, if_neg (by omega)]
    exact ⟨by show s.length ≤ 64; omega, rfl, hc⟩
  | succ k ih =>
    intro c s n h hc
    rw [feed]
    by_cases hs : 64 < s.length
    · rw [if_pos hs]
      have h1 := ih (compress c (wordsOf (s.take 64)) (n + 64) false) (s.drop 64) (n + 64) (by rw [List.length_drop]; omega) (length_compress _ _ _ _)
      rw [List.length_drop] at h1
      exact ⟨h1.1, by rw [h1.2.1]; omega, h1.2.2⟩
    · rw [if_neg hs]
      exact ⟨by show s.length ≤ 64; omega, rfl, hc⟩

theorem length_padKey (key : List UInt8) (h : key.length ≤ 64) : (padKey key).length ≤ 64 := by
  unfold padKey
  split
  · simp
  · simp; omega

/-- start, its value written out. -/
theorem start_lit (key : ByteArray) (w : World) (hk : key.size ≤ 32) :
    Calls Try.prog 26 #[.string key] w (fun e w' => ∃ e0 e1 e2 e3 e4 e5 e6 e7 a cap, e = .returned (.agg #[.int .u32 (n32 e0), .int .u32 (n32 e1), .int .u32 (n32 e2), .int .u32 (n32 e3), .int .u32 (n32 e4), .int .u32 (n32 e5), .int .u32 (n32 e6), .int .u32 (n32 e7), .slice a (padKey key.data.toList).length cap, .int .u64 0]) ∧
      chain0 key.size = [e0, e1, e2, e3, e4, e5, e6, e7] ∧ Seg w' w.heap.size 5 (.slice a (padKey key.data.toList).length cap) (n8s (padKey key.data.toList)) ∧ Below w.heap.size w w') := by
  refine (start_any key w hk).mono ?_
  rintro e w' ⟨v, he, hseg, hb⟩
  obtain ⟨e0, e1, e2, e3, e4, e5, e6, e7, hc⟩ := list8 (length_chain0 key.size)
  obtain ⟨a, cap, rfl, -, -, -⟩ := hseg.form
  have hl : (n8s (start0 key.data.toList).rest).length = (padKey key.data.toList).length := n8s_length _
  rw [hl] at he hseg
  refine ⟨e0, e1, e2, e3, e4, e5, e6, e7, a, cap, ?_, hc, hseg, hb⟩
  rw [he]
  show Ending.returned (.agg (stCells (chain0 key.data.toList.length) _ 0).toArray) = _
  rw [show key.data.toList.length = key.size from by simp, hc]
  rfl

set_option maxRecDepth 100000 in
set_option maxHeartbeats 2000000 in
theorem dsum_any (s : ByteArray) (w : World) (hs : s.size ≤ 140737488351232) :
    Calls Try.prog 12 #[.string s] w (Ret (.string (S8 (dsum s.data.toList))) w) := by
  show Calls _ _ _ _ (Ret (.string (S8 (keyed (⟨#[]⟩ : ByteArray).data.toList s.data.toList))) w)
  generalize hR : S8 (keyed (⟨#[]⟩ : ByteArray).data.toList s.data.toList) = R
  have HR := Lib.hid hR
  clear hR
  have hpad : (padKey (⟨#[]⟩ : ByteArray).data.toList).length ≤ 64 := length_padKey _ (by simp <;> omega)
  go_enter Try.func12, Try.ntmps12
  go_upto_region 2 with (go_at_call 26; (with_reducible refine (start_lit (⟨#[]⟩ : ByteArray) _ (by decide)).mono ?_); rintro e w1 ⟨e0, e1, e2, e3, e4, e5, e6, e7, a, cap, rfl, hc, hseg, hb⟩)
  generalize hp : padKey (⟨#[]⟩ : ByteArray).data.toList = pk at hseg hpad ⊢
  refine wp_gen (fun W => StAt W w.heap.size w1.heap.size 52 [] ⟨[e0, e1, e2, e3, e4, e5, e6, e7], pk, 0⟩ (.slice a pk.length cap) ∧ Below w.heap.size w W) ?_ ?_
  · have hn : Below w1.heap.size w1 (w1.alloc (.cells #[.int .u32 (n32 e0), .int .u32 (n32 e1), .int .u32 (n32 e2), .int .u32 (n32 e3), .int .u32 (n32 e4), .int .u32 (n32 e5), .int .u32 (n32 e6), .int .u32 (n32 e7), .slice a pk.length cap, .int .u64 0] 52)) := (Below.refl _ _).alloc (Nat.le_refl _) _
    exact ⟨⟨heap_new w1 _, hseg.below hn, fun g hg => by have := (hseg.lt g hg).2; omega, rfl⟩, below_then hb hb.size hn⟩
  rintro W ⟨hst, hW⟩
  have hsz : w.heap.size ≤ w1.heap.size := hb.size
  obtain ⟨b, hbb⟩ : ∃ b, b = w1.heap.size := ⟨_, rfl⟩
  rw [← hbb] at hst hsz ⊢
  have Hc := Lib.hid hc
  have Hp := Lib.hid hp
  have Hst := Lib.hid hst
  have HW := Lib.hid hW
  clear hb hbb hseg hc hp hst hW
  have hWs : w.heap.size ≤ W.heap.size := HW.out.size
  go_upto_region 3 with (go_at_call 27; (with_reducible refine (take_any w.heap.size b 52 [] _ _ s W Hst.out hWs (by show 0 + pk.length + s.size ≤ _; omega)).mono ?_); rintro e w2 ⟨rfl, v2, hst2, hk2, -⟩)
  obtain ⟨st2, hst2e⟩ : ∃ st, st = take1 ⟨[e0, e1, e2, e3, e4, e5, e6, e7], pk, 0⟩ s.data.toList := ⟨_, rfl⟩
  have hf := feed_facts (pk ++ s.data.toList).length [e0, e1, e2, e3, e4, e5, e6, e7] (pk ++ s.data.toList) 0 (Nat.le_refl _) rfl
  have hf' : st2.rest.length ≤ 64 ∧ st2.count + st2.rest.length = 0 + (pk ++ s.data.toList).length ∧ st2.chain.length = 8 := by rw [hst2e]; exact hf
  rw [← hst2e] at hst2
  have hR2 : R = S8 (finish ⟨st2.chain, st2.rest, st2.count⟩) := by
    rw [← HR.out, hst2e, ← Hc.out, ← Hp.out]
    rfl
  have hW2 : Below w.heap.size w w2 := HW.out.trans (hk2.below hWs (fun k hk => by
    rcases hk with rfl | hk
    · exact hsz
    · exact (Hst.out.seg.lt k hk.symm).1))
  have hblk := hst2.blk
  rw [List.append_nil] at hblk
  have hsz10 : (Try.prog.info? 52).map (·.size) = some (stCells st2.chain v2 st2.count).toArray.size := by
    rw [show (stCells st2.chain v2 st2.count).toArray.size = 10 from by simp [stCells, u32s, hf'.2.2]]
    kernel_rfl
  have hbound : st2.count + st2.rest.length ≤ 140737488355328 := by rw [hf'.2.1, List.length_append]; simp; omega
  have Hblk := Lib.hid hblk
  have Hst2 := Lib.hid hst2
  have Hf := Lib.hid hf'
  have HR2 := Lib.hid hR2
  have HW2 := Lib.hid hW2
  clear hf hf' hst2e hst2 hk2 hR2 hW2 hblk HR Hc Hp Hst HW
  go_wp2_with (first | (refine wpList_load_row rfl 52 _ rfl b rfl 52 (stCells st2.chain v2 st2.count).toArray _ _ Hblk.out Try.underlying52 rfl hsz10 ?_) | (go_at_call 28; (with_reducible refine (sum_any w.heap.size st2.chain v2 st2.rest st2.count _ Hf.out.2.2 Hst2.out.seg Hf.out.1 hbound).mono ?_); rintro e w3 ⟨rfl, hb3⟩))
  go_ret
  exact ⟨by rw [HR2.out]; rfl, below_then HW2.out HW2.out.size hb3⟩

set_option maxRecDepth 100000 in
set_option maxHeartbeats 2000000 in
theorem keyed_any (key s : ByteArray) (w : World) (hk : key.size ≤ 32) (hs : s.size ≤ 140737488351232) :
    Calls Try.prog 14 #[.string key, .string s] w (Ret (.tuple #[.string (S8 (keyed key.data.toList s.data.toList)), .int .i64 0]) w) := by
  have hkI : ¬ (32 : Int) < (key.size : Int) := by omega
  generalize hR : S8 (keyed key.data.toList s.data.toList) = R
  have HR := Lib.hid hR
  clear hR
  have hpad : (padKey key.data.toList).length ≤ 64 := length_padKey _ (by simp <;> omega)
  go_enter Try.func14, Try.ntmps14
  go_upto_region 4 with (go_at_call 26; (with_reducible refine (start_lit key _ (by omega)).mono ?_); rintro e w1 ⟨e0, e1, e2, e3, e4, e5, e6, e7, a, cap, rfl, hc, hseg, hb⟩)
  generalize hp : padKey key.data.toList = pk at hseg hpad ⊢
  refine wp_gen (fun W => StAt W w.heap.size w1.heap.size 52 [] ⟨[e0, e1, e2, e3, e4, e5, e6, e7], pk, 0⟩ (.slice a pk.length cap) ∧ Below w.heap.size w W) ?_ ?_
  · have hn : Below w1.heap.size w1 (w1.alloc (.cells #[.int .u32 (n32 e0), .int .u32 (n32 e1), .int .u32 (n32 e2), .int .u32 (n32 e3), .int .u32 (n32 e4), .int .u32 (n32 e5), .int .u32 (n32 e6), .int .u32 (n32 e7), .slice a pk.length cap, .int .u64 0] 52)) := (Below.refl _ _).alloc (Nat.le_refl _) _
    exact ⟨⟨heap_new w1 _, hseg.below hn, fun g hg => by have := (hseg.lt g hg).2; omega, rfl⟩, below_then hb hb.size hn⟩
  rintro W ⟨hst, hW⟩
  have hsz : w.heap.size ≤ w1.heap.size := hb.size
  obtain ⟨b, hbb⟩ : ∃ b, b = w1.heap.size := ⟨_, rfl⟩
  rw [← hbb] at hst hsz ⊢
  have Hc := Lib.hid hc
  have Hp := Lib.hid hp
  have Hst := Lib.hid hst
  have HW := Lib.hid hW
  clear hb hbb hseg hc hp hst hW
  have hWs : w.heap.size ≤ W.heap.size := HW.out.size
  go_upto_region 5 with (go_at_call 27; (with_reducible refine (take_any w.heap.size b 52 [] _ _ s W Hst.out hWs (by show 0 + pk.length + s.size ≤ _; omega)).mono ?_); rintro e w2 ⟨rfl, v2, hst2, hk2, -⟩)
  obtain ⟨st2, hst2e⟩ : ∃ st, st = take1 ⟨[e0, e1, e2, e3, e4, e5, e6, e7], pk, 0⟩ s.data.toList := ⟨_, rfl⟩
  have hf := feed_facts (pk ++ s.data.toList).length [e0, e1, e2, e3, e4, e5, e6, e7] (pk ++ s.data.toList) 0 (Nat.le_refl _) rfl
  have hf' : st2.rest.length ≤ 64 ∧ st2.count + st2.rest.length = 0 + (pk ++ s.data.toList).length ∧ st2.chain.length = 8 := by rw [hst2e]; exact hf
  rw [← hst2e] at hst2
  have hR2 : R = S8 (finish ⟨st2.chain, st2.rest, st2.count⟩) := by
    rw [← HR.out, hst2e, ← Hc.out, ← Hp.out]
    show _ = S8 (finish (take1 ⟨chain0 key.size, padKey key.data.toList, 0⟩ s.data.toList))
    unfold keyed start0
    rw [show key.data.toList.length = key.size from by simp]
  have hW2 : Below w.heap.size w w2 := HW.out.trans (hk2.below hWs (fun k hk => by
    rcases hk with rfl | hk
    · exact hsz
    · exact (Hst.out.seg.lt k hk.symm).1))
  have hblk := hst2.blk
  rw [List.append_nil] at hblk
  have hsz10 : (Try.prog.info? 52).map (·.size) = some (stCells st2.chain v2 st2.count).toArray.size := by
    rw [show (stCells st2.chain v2 st2.count).toArray.size = 10 from by simp [stCells, u32s, hf'.2.2]]
    kernel_rfl
  have hbound : st2.count + st2.rest.length ≤ 140737488355328 := by rw [hf'.2.1, List.length_append]; simp; omega
  have Hblk := Lib.hid hblk
  have Hst2 := Lib.hid hst2
  have Hf := Lib.hid hf'
  have HR2 := Lib.hid hR2
  have HW2 := Lib.hid hW2
  clear hf hf' hst2e hst2 hk2 hR2 hW2 hblk HR Hc Hp Hst HW
  go_wp2_with (first | (refine wpList_load_row rfl 52 _ rfl b rfl 52 (stCells st2.chain v2 st2.count).toArray _ _ Hblk.out Try.underlying52 rfl hsz10 ?_) | (go_at_call 28; (with_reducible refine (sum_any w.heap.size st2.chain v2 st2.rest st2.count _ Hf.out.2.2 Hst2.out.seg Hf.out.1 hbound).mono ?_); rintro e w3 ⟨rfl, hb3⟩))
  go_ret2
  exact ⟨by rw [HR2.out]; rfl, below_then HW2.out HW2.out.size hb3⟩

theorem keyed_bad (key s : ByteArray) (w : World) (hk : 32 < key.size) :
    Calls Try.prog 14 #[.string key, .string s] w (Ret (.tuple #[.string ⟨#[]⟩, .int .i64 1]) w) := by
  have hkI : (32 : Int) < (key.size : Int) := by omega
  go_enter Try.func14, Try.ntmps14
  go_wp2
  go_ret2
  exact ⟨rfl, Below.refl _ _⟩

end Go.Proofs.Ytkkoldfaplonaaa
