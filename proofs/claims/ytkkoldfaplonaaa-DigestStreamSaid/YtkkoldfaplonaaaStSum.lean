/- The contract of (digest.state).sum. -/
import Derived.Test.YtkkoldfaplonaaaStart
namespace Go.Proofs.Ytkkoldfaplonaaa
open Go.RowKit

theorem bytesAt_seg {w : World} {base : Nat} {a : Option Addr} {n cap : Nat} {l : List UInt8} (h : Seg w base 5 (.slice a n cap) (n8s l)) : BytesAt w a l := by
  intro j hj
  obtain ⟨a', cap', he, -, -, hx⟩ := h.form
  obtain ⟨g', off', ha, hc⟩ := hx j (.int .u8 (n8 (at8 l j))) (by simp [n8s, at8, List.getElem?_eq_getElem hj])
  injection he with he
  exact ⟨g', off', he.trans ha, hc⟩
theorem run_convert_seg {w : World} {base : Nat} {v : Value} {l : List UInt8} (h : Seg w base 5 v (n8s l)) : (convert 50 9 v).run Try.prog w = .ok (.string (S8 l)) w := by
  rcases h with ⟨rfl, hl⟩ | ⟨g, off, cap, cur, rfl, hb, hg, hc, hs, hm, hx⟩
  · obtain rfl : l = [] := by simpa [n8s] using hl
    rw [run_convert_bytes_string w _ _ 5 none 0 0 Try.underlying50 Try.underlying5 Try.underlying9]
    kernel_rfl
  · have h1 := run_convert_bytes_back (P := Try.prog) w 50 9 5 ⟨g, off, none⟩ cap l Try.underlying50 Try.underlying5 Try.underlying9 (fun j hj => by
      rw [addr_add, cell_of hg, hx j (by simpa [n8s] using hj)]
      simp [n8s, n8, List.getElem?_eq_getElem hj])
    rw [n8s_length]
    exact h1

theorem bytesOf_step (l : List UInt32) (i : Nat) (hi : i < l.length) : bytesOf (l.take (i + 1)) = bytesOf (l.take i) ++ bytes4 (at32 l i) := by
  unfold bytesOf at32
  rw [List.take_add_one, List.flatMap_append, List.getD_eq_getElem?_getD, List.getElem?_eq_getElem hi]
  simp

theorem length_bytesOf (l : List UInt32) : (bytesOf l).length = 4 * l.length := by
  unfold bytesOf
  induction l with
  | nil => rfl
  | cons a l ih => rw [List.flatMap_cons, List.length_append, ih, List.length_cons]; simp [bytes4]; omega

set_option maxRecDepth 100000 in
set_option maxHeartbeats 2000000 in
theorem sum_any (base : Nat) (c : List UInt32) (v : Value) (rest : List UInt8) (n : Nat) (w : World) (hc : c.length = 8) (hseg : Seg w base 5 v (n8s rest)) (hr : rest.length ≤ 64) (hn : n + rest.length ≤ 140737488355328) :
    Calls Try.prog 28 #[.agg (stCells c v n).toArray] w (Ret (.string (S8 (finish ⟨c, rest, n⟩))) w) := by
  obtain ⟨e0, e1, e2, e3, e4, e5, e6, e7, rfl⟩ := list8 hc
  clear hc
  obtain ⟨a, cap, rfl, hcap, hcm, -⟩ := hseg.form
  simp only [n8s_length] at hcap hseg ⊢
  have i0 : (Try.prog.info? 5).map (fun i => (i.zero, i.size, i.bytes)) = some (some (.int .u8 0), 1, 1) := by kernel_rfl
  obtain ⟨i5, hi5, hz5, hs5, hb5⟩ := info_parts i0
  have hmk : ∀ w, (Instr.makeSlice 50 (.int .i64 0) (.int .i64 32)).run Try.prog w = .ok (.slice (some ⟨w.heap.size, 0, none⟩) 0 32) (w.alloc (.cells [Value.int .u8 0, Value.int .u8 0, Value.int .u8 0, Value.int .u8 0, Value.int .u8 0, Value.int .u8 0, Value.int .u8 0, Value.int .u8 0, Value.int .u8 0, Value.int .u8 0, Value.int .u8 0, Value.int .u8 0, Value.int .u8 0, Value.int .u8 0, Value.int .u8 0, Value.int .u8 0, Value.int .u8 0, Value.int .u8 0, Value.int .u8 0, Value.int .u8 0, Value.int .u8 0, Value.int .u8 0, Value.int .u8 0, Value.int .u8 0, Value.int .u8 0, Value.int .u8 0, Value.int .u8 0, Value.int .u8 0, Value.int .u8 0, Value.int .u8 0, Value.int .u8 0, Value.int .u8 0].toArray 5)) := fun _ => by kernel_rfl
  have HS := Lib.hid hseg
  generalize hR : S8 (finish ⟨[e0, e1, e2, e3, e4, e5, e6, e7], rest, n⟩) = R
  have HR := Lib.hid hR
  clear hseg i0 hR
  simp only [stCells, u32s, List.map, List.cons_append, List.nil_append]
  go_enter Try.func28, Try.ntmps28
  go_upto_region 2 with (fail)
  clear hmk
  obtain ⟨b1, hb1⟩ : ∃ b, b = w.heap.size := ⟨_, rfl⟩
  refine wp_gen (fun W => Below w.heap.size w W ∧ W.heap[b1]? = some (.cells (stCells [e0, e1, e2, e3, e4, e5, e6, e7] (.slice a rest.length cap) n).toArray 52 (0, 0)) ∧ Seg W base 5 (.slice a rest.length cap) (n8s rest) ∧ Seg W w.heap.size 5 (.slice (some ⟨b1 + 1, 0, none⟩) 0 32) (n8s (bytesOf []))) ?_ ?_
  · have hB := (((Below.refl w.heap.size w).alloc (Nat.le_refl _) (Obj.cells (stCells [e0, e1, e2, e3, e4, e5, e6, e7] (.slice a rest.length cap) n).toArray 52 (0, 0))).alloc (by simp) (Obj.cells [Value.int .u8 0, Value.int .u8 0, Value.int .u8 0, Value.int .u8 0, Value.int .u8 0, Value.int .u8 0, Value.int .u8 0, Value.int .u8 0, Value.int .u8 0, Value.int .u8 0, Value.int .u8 0, Value.int .u8 0, Value.int .u8 0, Value.int .u8 0, Value.int .u8 0, Value.int .u8 0, Value.int .u8 0, Value.int .u8 0, Value.int .u8 0, Value.int .u8 0, Value.int .u8 0, Value.int .u8 0, Value.int .u8 0, Value.int .u8 0, Value.int .u8 0, Value.int .u8 0, Value.int .u8 0, Value.int .u8 0, Value.int .u8 0, Value.int .u8 0, Value.int .u8 0, Value.int .u8 0].toArray 5))
    refine ⟨hB, ?_, HS.out.below hB, ?_⟩
    · rw [hb1]
      exact heap_old (heap_new w _) _
    · rw [hb1]
      have h1 := heap_new (w.alloc (Obj.cells (stCells [e0, e1, e2, e3, e4, e5, e6, e7] (.slice a rest.length cap) n).toArray 52 (0, 0))) (Obj.cells [Value.int .u8 0, Value.int .u8 0, Value.int .u8 0, Value.int .u8 0, Value.int .u8 0, Value.int .u8 0, Value.int .u8 0, Value.int .u8 0, Value.int .u8 0, Value.int .u8 0, Value.int .u8 0, Value.int .u8 0, Value.int .u8 0, Value.int .u8 0, Value.int .u8 0, Value.int .u8 0, Value.int .u8 0, Value.int .u8 0, Value.int .u8 0, Value.int .u8 0, Value.int .u8 0, Value.int .u8 0, Value.int .u8 0, Value.int .u8 0, Value.int .u8 0, Value.int .u8 0, Value.int .u8 0, Value.int .u8 0, Value.int .u8 0, Value.int .u8 0, Value.int .u8 0, Value.int .u8 0].toArray 5)
      rw [World.size_alloc] at h1
      exact .inr ⟨w.heap.size + 1, 0, 32, _, rfl, by omega, h1, by decide, by decide, by decide, fun j hj => by cases hj⟩
  rintro W ⟨hW, hs, hg, ho⟩
  rw [← hb1]
  clear hb1 HS
  have q0 : ∀ x : Ext W.drew, x.v.cell? ⟨b1, 0, none⟩ = some (.int .u32 (n32 e0)) := fun x => (x.cell _ _ (lt_of_block hs)).trans (by show W.cell? _ = _; rw [cell_of hs]; rfl)
  have q1 : ∀ x : Ext W.drew, x.v.cell? ⟨b1, 1, none⟩ = some (.int .u32 (n32 e1)) := fun x => (x.cell _ _ (lt_of_block hs)).trans (by show W.cell? _ = _; rw [cell_of hs]; rfl)
  have q2 : ∀ x : Ext W.drew, x.v.cell? ⟨b1, 2, none⟩ = some (.int .u32 (n32 e2)) := fun x => (x.cell _ _ (lt_of_block hs)).trans (by show W.cell? _ = _; rw [cell_of hs]; rfl)
  have q3 : ∀ x : Ext W.drew, x.v.cell? ⟨b1, 3, none⟩ = some (.int .u32 (n32 e3)) := fun x => (x.cell _ _ (lt_of_block hs)).trans (by show W.cell? _ = _; rw [cell_of hs]; rfl)
  have q4 : ∀ x : Ext W.drew, x.v.cell? ⟨b1, 4, none⟩ = some (.int .u32 (n32 e4)) := fun x => (x.cell _ _ (lt_of_block hs)).trans (by show W.cell? _ = _; rw [cell_of hs]; rfl)
  have q5 : ∀ x : Ext W.drew, x.v.cell? ⟨b1, 5, none⟩ = some (.int .u32 (n32 e5)) := fun x => (x.cell _ _ (lt_of_block hs)).trans (by show W.cell? _ = _; rw [cell_of hs]; rfl)
  have q6 : ∀ x : Ext W.drew, x.v.cell? ⟨b1, 6, none⟩ = some (.int .u32 (n32 e6)) := fun x => (x.cell _ _ (lt_of_block hs)).trans (by show W.cell? _ = _; rw [cell_of hs]; rfl)
  have q7 : ∀ x : Ext W.drew, x.v.cell? ⟨b1, 7, none⟩ = some (.int .u32 (n32 e7)) := fun x => (x.cell _ _ (lt_of_block hs)).trans (by show W.cell? _ = _; rw [cell_of hs]; rfl)
  have q8 : ∀ x : Ext W.drew, x.v.cell? ⟨b1, 8, none⟩ = some (.slice a rest.length cap) := fun x => (x.cell _ _ (lt_of_block hs)).trans (by show W.cell? _ = _; rw [cell_of hs]; rfl)
  have q9 : ∀ x : Ext W.drew, x.v.cell? ⟨b1, 9, none⟩ = some (.int .u64 (n : Int)) := fun x => (x.cell _ _ (lt_of_block hs)).trans (by show W.cell? _ = _; rw [cell_of hs]; rfl)
  obtain ⟨ws, hws⟩ : ∃ ws, ws = wordsOf rest := ⟨_, rfl⟩
  have hwl : ws.length = 16 := by rw [hws]; exact length_wordsOf _
  obtain ⟨c2, hc2⟩ : ∃ c2, c2 = compress [e0, e1, e2, e3, e4, e5, e6, e7] ws (n + rest.length) true := ⟨_, rfl⟩
  have hc2l : c2.length = 8 := by rw [hc2]; exact length_compress _ _ _ _
  have hR2 : R = S8 (bytesOf c2) := by
    rw [← HR.out, hc2, hws]
    rfl
  have hB : ∀ x : Ext W.drew, Calls Try.prog 37 #[.slice a rest.length cap] x.v (Ret (uAgg ws) x.v) := by
    intro x
    have h1 := words_any a cap rest x.v hr (bytesAt_seg (hg.below (below_undrew x.below)))
    rw [← hws] at h1
    exact h1
  have hC : ∀ w, Calls Try.prog 18 #[.agg #[.int .u32 (n32 e0), .int .u32 (n32 e1), .int .u32 (n32 e2), .int .u32 (n32 e3), .int .u32 (n32 e4), .int .u32 (n32 e5), .int .u32 (n32 e6), .int .u32 (n32 e7)], uAgg ws, .int .u64 ((n : Int) + (rest.length : Int)), .bool true] w (Ret (.agg (u32s c2).toArray) w) := by
    intro w
    have h1 := compress_any [e0, e1, e2, e3, e4, e5, e6, e7] ws (n + rest.length) true w rfl hwl (by omega)
    rw [← hc2] at h1
    exact h1
  have a1 : IntKind.u64.wrap (rest.length : Int) = (rest.length : Int) := by simp [IntKind.wrap, IntKind.bits, IntKind.signed]; omega
  have a2 : IntKind.u64.wrap ((n : Int) + (rest.length : Int)) = (n : Int) + (rest.length : Int) := by simp [IntKind.wrap, IntKind.bits, IntKind.signed]; omega
  have HB := Lib.hid hB
  have HC := Lib.hid hC
  have HR2 := Lib.hid hR2
  have Hc2l := Lib.hid hc2l
  have HW := Lib.hid hW
  have Ho := Lib.hid ho
  clear hB hC hws hc2 hwl hg hs HR hR2 hc2l hW ho
  refine wp_region_ext 14 (by kernel_rfl) (by kernel_rfl) ?_
  iterate 4 (refine wpX_step (fun K hK => ?_); go_simp; refine hK _ ?_; clear hK K)
  refine wpX_step (fun K hK => ?_)
  go_simp
  refine ⟨_, fun x => HB.out x, hK _ ?_⟩
  clear hK K
  iterate 7 (refine wpX_step (fun K hK => ?_); go_simp; refine hK _ ?_; clear hK K)
  refine wpX_step (fun K hK => ?_)
  go_simp
  refine ⟨_, fun x => HC.out x.v, hK _ ?_⟩
  clear hK K
  refine wpX_step (fun K hK => ?_)
  go_simp
  refine hK _ ?_
  clear hK K
  refine wpX_nil ?_
  intro X
  have hV := HW.out.trans ((below_undrew X.below).mono HW.out.size)
  have hVo := Ho.out.below (below_undrew X.below)
  clear q0 q1 q2 q3 q4 q5 q6 q7 q8 q9 HB HC HW Ho a1 a2
  generalize X.v = V at hV hVo ⊢
  refine wpList_nil ?_
  go_wp2
  have hVo0 : Seg V w.heap.size 5 (.slice (some ⟨b1 + 1, 0, none⟩) 0 32) (n8s (bytesOf (c2.take 0))) := hVo
  clear hVo
  go_loopw [3, 20] (fun o k wr => ∃ i : Nat, i ≤ 8 ∧ k = .int .i64 i ∧ Seg wr w.heap.size 5 o (n8s (bytesOf (c2.take i))) ∧ Below w.heap.size w wr) (fun _ k _ => 8 - (intOf k).toNat)
  case atStart => exact ⟨0, by omega, rfl, hVo0, hV⟩
  case round =>
    obtain ⟨i, hi, rfl, hgo, hbl⟩ := hrel
    by_cases hli : i < 8
    · have hix := fun w => run_index_one (P := Try.prog) (cs := (u32s c2).toArray) Try.underlying31 (fun w => by kernel_rfl) (by kernel_rfl) i hli (.int .u32 (n32 (at32 c2 i))) (by simp [u32s, at32, List.getElem?_eq_getElem (show i < c2.length by rw [Hc2l.out]; exact hli)]) w
      have hlI : (i : Int) < 8 := by omega
      have d0 : n32 (at32 c2 i) % 256 = n8 (byteAt (at32 c2 i) 0) := by
        have h1 := byteAt_eq (at32 c2 i) 0
        simp [IntKind.wrap, IntKind.bits, IntKind.signed] at h1
        exact h1
      have d1 : n32 (at32 c2 i) / 256 % 256 = n8 (byteAt (at32 c2 i) 1) := by
        have h1 := byteAt_eq (at32 c2 i) 1
        simp [IntKind.wrap, IntKind.bits, IntKind.signed] at h1
        exact h1
      have d2 : n32 (at32 c2 i) / 65536 % 256 = n8 (byteAt (at32 c2 i) 2) := by
        have h1 := byteAt_eq (at32 c2 i) 2
        simp [IntKind.wrap, IntKind.bits, IntKind.signed] at h1
        exact h1
      have d3 : n32 (at32 c2 i) / 16777216 % 256 = n8 (byteAt (at32 c2 i) 3) := by
        have h1 := byteAt_eq (at32 c2 i) 3
        simp [IntKind.wrap, IntKind.bits, IntKind.signed] at h1
        exact h1
      have hlen4 : (n8s (bytesOf (c2.take i))).length = 4 * i := by rw [n8s_length, length_bytesOf, List.length_take, Hc2l.out, Nat.min_eq_left hi]
      have hbA := (Below.refl wr.heap.size wr).alloc (Nat.le_refl _) (.cells #[.int .u8 (n8 (byteAt (at32 c2 i) 0)), .int .u8 (n8 (byteAt (at32 c2 i) 1)), .int .u8 (n8 (byteAt (at32 c2 i) 2)), .int .u8 (n8 (byteAt (at32 c2 i) 3))] 5)
      obtain ⟨v4, w4, hr4, hg4, hk4, hown4⟩ := run_append_seg (P := Try.prog) (wr.alloc (.cells #[.int .u8 (n8 (byteAt (at32 c2 i) 0)), .int .u8 (n8 (byteAt (at32 c2 i) 1)), .int .u8 (n8 (byteAt (at32 c2 i) 2)), .int .u8 (n8 (byteAt (at32 c2 i) 3))] 5)) w.heap.size 50 50 50 5 i5 (.int .u8 0) Try.underlying50 hi5 hz5 hs5 rfl u3 _ (hgo.below hbA) (.slice (some ⟨wr.heap.size, 0, none⟩) 4 4) 4 (n8s (bytes4 (at32 c2 i)))
        (Src.ofSlice _ Try.underlying50 ⟨wr.heap.size, 0, none⟩ 4 4 (n8s (bytes4 (at32 c2 i))) rfl (news_of (heap_new wr _)) (by simp [n8s, bytes4, Value.oneCell'])) (by rw [hlen4]; simp [maxLen]; omega) (by rw [hlen4, hb5]; omega) (by have := hbl.size; simp; omega)
      have hk5 : Below w.heap.size w w4 := (hbl.alloc hbl.size _).trans (hk4.below (by have := hbl.size; simp; omega) (fun k hk => (hgo.lt k hk.symm).1))
      rw [n8s_append, ← bytesOf_step c2 i (by rw [Hc2l.out]; exact hli)] at hg4
      have Hr4 := Lib.hid hr4
      have Hg4 := Lib.hid hg4
      have Hk5 := Lib.hid hk5
      clear hgo hbl hr4 hg4 hk4 hown4 hk5 hlen4 hbA
      go_wp2_with (at_builtin; refine Lib.wpList_append_run _ rfl (.tmp 23) (.tmp 35) 50 50 rfl _ _ rfl rfl _ _ Hr4.out ?_)
      go_roundw
      case rel => exact ⟨i + 1, by omega, by go_num, Hg4.out, Hk5.out⟩
      case measure => simp [intOf]; omega
    · have hlI : ¬ (i : Int) < 8 := by omega
      have Hi : Hid (i = 8) := Lib.hid (by omega)
      rw [Hi.out, List.take_of_length_le (by rw [Hc2l.out]; omega)] at hgo
      have hcv := run_convert_seg hgo
      rw [← HR2.out] at hcv
      have Hbl := Lib.hid hbl
      clear hbl hgo
      go_wp2
      go_ret
      exact ⟨rfl, Hbl.out⟩

end Go.Proofs.Ytkkoldfaplonaaa
