/- The contract of (*digest.state).take. -/
import Derived.Test.YtkkoldfaplonaaaSumR
import Derived.Test.YtkkoldfaplonaaaSeg
namespace Go.Proofs.Ytkkoldfaplonaaa
open Go.RowKit

/-- The cells of a state: chain, rest, count. -/
def stCells (c : List UInt32) (v : Value) (n : Nat) : List Value := u32s c ++ [v, .int .u64 (n : Int)]

/-- A state lies at the head of block b, other cells behind it; its rest is the slice v, which owns its bytes. -/
structure StAt (w : World) (base b : Nat) (T : TypeId) (tail : List Value) (st : St) (v : Value) : Prop where
  blk : w.heap[b]? = some (.cells (stCells st.chain v st.count ++ tail).toArray T (0, 0))
  seg : Seg w base 5 v (n8s st.rest)
  apart : ∀ g, v.ownBlock = some g → g ≠ b
  len : st.chain.length = 8

def sliceLen : Option Value → Nat
  | some (.slice _ n _) => n
  | _ => 0

theorem strCells_n8s (s : ByteArray) : Lib.strCells s = n8s s.data.toList := rfl
theorem n8s_append (a b : List UInt8) : n8s a ++ n8s b = n8s (a ++ b) := by simp [n8s]
theorem n8s_length (a : List UInt8) : (n8s a).length = a.length := by simp [n8s]
theorem n8s_drop (a : List UInt8) (k : Nat) : (n8s a).drop k = n8s (a.drop k) := by simp [n8s, List.map_drop]

/-- What take leaves. -/
def TakePost (w : World) (base b : Nat) (T : TypeId) (tail : List Value) (st : St) (v : Value) : Ending → World → Prop := fun e w' =>
  e = .returned (.tuple #[]) ∧ ∃ v', StAt w' base b T tail st v' ∧ Keeps (fun k => k = b ∨ some k = v.ownBlock) w w' ∧ (v'.ownBlock = v.ownBlock ∨ v'.ownBlock = some w.heap.size)

theorem st_cell {w : World} {base b : Nat} {T : TypeId} {tail : List Value} {st : St} {v : Value} (h : StAt w base b T tail st v) :
    w.cell? ⟨b, 8, none⟩ = some v ∧ w.cell? ⟨b, 9, none⟩ = some (.int .u64 (st.count : Int)) ∧ ∀ j, w.frozen? ⟨b, j, none⟩ = false := by
  obtain ⟨h0, _, _, h8⟩ := h
  obtain ⟨e0, e1, e2, e3, e4, e5, e6, e7, hc⟩ := list8 h8
  rw [hc] at h0
  refine ⟨by rw [cell_of h0]; rfl, by rw [cell_of h0]; rfl, fun j => frozen_of h0 j⟩

theorem bytesAt_take {w : World} {base g off n cap : Nat} {l : List UInt8} (h : Seg w base 5 (.slice (some ⟨g, off, none⟩) n cap) (n8s l)) (k : Nat) (hk : k ≤ l.length) : BytesAt w (some ⟨g, off, none⟩) (l.take k) := by
  intro j hj
  obtain ⟨a, cap', he, -, -, hx⟩ := h.form
  simp only [List.length_take] at hj
  obtain ⟨g', off', ha, hc⟩ := hx j (.int .u8 (n8 (at8 l j))) (by simp [n8s, at8, List.getElem?_eq_getElem (show j < l.length by omega)])
  refine ⟨g, off, rfl, ?_⟩
  injection he with he
  rw [ha] at he
  injection he with he
  injection he with he1 he2
  subst he1 he2
  rw [hc]
  simp [at8, List.getD_eq_getElem?_getD, List.getElem?_take_of_lt (show j < k by omega)]
theorem keeps_set (w : World) (b o : Nat) (u : Value) : Keeps (fun k => k = b) w (w.setCell ⟨b, o, none⟩ u) := (Keeps.refl (fun k => k = b) w).setCell (p := ⟨b, o, none⟩) (fun _ => rfl) u
theorem st_cell8 {w : World} {b : Nat} {T : TypeId} {c : List UInt32} {v : Value} {n : Nat} {tail : List Value} (h0 : w.heap[b]? = some (.cells (stCells c v n ++ tail).toArray T (0, 0))) (h8 : c.length = 8) : w.cell? ⟨b, 8, none⟩ = some v := by
  obtain ⟨e0, e1, e2, e3, e4, e5, e6, e7, hc⟩ := list8 h8
  rw [hc] at h0
  rw [cell_of h0]
  rfl
theorem st_set8 {c : List UInt32} {v u : Value} {n : Nat} {tail : List Value} (h8 : c.length = 8) : (stCells c v n ++ tail).toArray.setIfInBounds 8 u = (stCells c u n ++ tail).toArray := by
  obtain ⟨e0, e1, e2, e3, e4, e5, e6, e7, hc⟩ := list8 h8
  rw [hc]
  simp [stCells, u32s]
theorem st_set9 {c : List UInt32} {v : Value} {n m : Nat} {tail : List Value} (h8 : c.length = 8) : (stCells c v n ++ tail).toArray.setIfInBounds 9 (.int .u64 (m : Int)) = (stCells c v m ++ tail).toArray := by
  obtain ⟨e0, e1, e2, e3, e4, e5, e6, e7, hc⟩ := list8 h8
  rw [hc]
  simp [stCells, u32s]

set_option maxRecDepth 100000 in
set_option maxHeartbeats 2000000 in
theorem take_any (base b : Nat) (T : TypeId) (tail : List Value) (st : St) (v : Value) (s : ByteArray) (w : World) (h : StAt w base b T tail st v)
    (hbase : base ≤ w.heap.size) (hn : st.count + st.rest.length + s.size ≤ 140737488355328) :
    Calls Try.prog 27 #[.pointer (some ⟨b, 0, none⟩), .string s] w (TakePost w base b T tail (take1 st s.data.toList) v) := by
  obtain ⟨c8, c9, cf⟩ := st_cell h
  have f8 := cf 8
  have i0 : (Try.prog.info? 5).map (fun i => (i.zero, i.size, i.bytes)) = some (some (.int .u8 0), 1, 1) := by kernel_rfl
  obtain ⟨i5, hi5, hz5, hs5, hb5⟩ := info_parts i0
  have hl8 : (n8s st.rest).length + s.size ≤ 140737488355328 := by rw [n8s_length]; omega
  have H := Lib.hid h
  have Happ := Lib.hid (fun (w : World) (h : Seg w base 5 v (n8s st.rest)) (hb : base ≤ w.heap.size) => run_append_seg_string (P := Try.prog) w base 50 9 50 5 i5 Try.underlying50 Try.underlying9 hi5 hz5 hs5 hb5 v (n8s st.rest) h s hl8 hb)
  clear cf h i0
  go_enter Try.func27, Try.ntmps27
  have hne := H.out.apart
  have hbS : ¬ (some b = v.ownBlock) := fun e => hne b e.symm rfl
  have Hne := Lib.hid hbS
  clear hne hbS
  go_wp2_with (refine wpList_append_seg_string _ rfl (.tmp 8) (.tmp 9) 50 9 rfl base 5 i5 Try.underlying50 Try.underlying9 hi5 hz5 hs5 hb5 v _ rfl H.out.seg s rfl hl8 hbase ?_; intro v1 w1 hseg1 hk1 hown1; have c18 := st_cell8 (hk1.heap H.out.blk Hne.out) H.out.len; have f18 := frozen_of (hk1.heap H.out.blk Hne.out) 8; have Hseg1 := Lib.hid hseg1; have Hk1 := Lib.hid hk1; have Hown1 := Lib.hid hown1; obtain ⟨a1, cap1, hv1, -, -, -⟩ := hseg1.form; clear hseg1 hk1 hown1; generalize (n8s st.rest ++ Lib.strCells s).length = l1 at hv1; subst hv1)
  obtain ⟨v1, hv1⟩ : ∃ v1, v1 = Value.slice a1 l1 cap1 := ⟨_, rfl⟩
  rw [← hv1] at Hseg1 Hown1 ⊢
  clear hv1
  clear c8 c9 f8 c18 f18
  have ap1 : ∀ g, v1.ownBlock = some g → g ≠ b := fun g hg e => by
    subst e
    rcases Hown1.out with h | h
    · exact H.out.apart g (h.symm.trans hg) rfl
    · have h1 := lt_of_block H.out.blk
      rw [h] at hg
      injection hg with hg
      omega
  have hb1 := Hk1.out.heap H.out.blk Hne.out
  refine wp_gen (fun W => StAt W base b T tail ⟨st.chain, st.rest ++ s.data.toList, st.count⟩ v1 ∧ Keeps (fun k => k = b ∨ some k = v.ownBlock) w W) ?_ ?_
  · refine ⟨⟨?_, ?_, ap1, H.out.len⟩, ?_⟩
    · have h1 := heap_set hb1 8 v1
      rw [st_set8 H.out.len] at h1
      exact h1
    · have h1 := Hseg1.out
      rw [strCells_n8s, n8s_append] at h1
      exact h1.kept (S := fun k => k = b) (keeps_set _ _ _ _) (fun k hk => ap1 k hk)
    · exact Keeps.setCell (p := ⟨b, 8, none⟩) (Hk1.out.weak (T := fun k => k = b ∨ some k = v.ownBlock) (fun k _ h => Or.inr h)) (fun _ => Or.inl rfl) _
  rintro W ⟨hst, hkW⟩
  have hlen0 : st.count + (st.rest ++ s.data.toList).length = st.count + st.rest.length + s.size := by rw [List.length_append, Nat.add_assoc]; simp
  clear ap1 hb1 Hseg1 Hk1
  obtain ⟨c0, hc0⟩ : ∃ c0, c0 = st.chain := ⟨_, rfl⟩
  obtain ⟨r0, hr0⟩ : ∃ r0, r0 = st.rest ++ s.data.toList := ⟨_, rfl⟩
  obtain ⟨n0, hn0⟩ : ∃ n0, n0 = st.count := ⟨_, rfl⟩
  rw [← hc0, ← hr0, ← hn0] at hst
  rw [← hr0, ← hn0] at hlen0
  have hpost : take1 st s.data.toList = feed c0 r0 n0 := by rw [hc0, hr0, hn0]; rfl
  rw [hpost]
  have hmax : n0 + r0.length ≤ 140737488355328 := by omega
  have Hmax := Lib.hid hmax
  clear hc0 hr0 hn0 hpost hlen0 hn hl8 hmax
  go_loopw [] (fun wr => ∃ (c : List UInt32) (rest : List UInt8) (n : Nat) (v2 : Value), feed c0 r0 n0 = feed c rest n ∧ n + rest.length ≤ 140737488355328 ∧ StAt wr base b T tail ⟨c, rest, n⟩ v2 ∧ Keeps (fun k => k = b ∨ some k = v.ownBlock) w wr ∧ v2.ownBlock = v1.ownBlock) (fun wr => sliceLen (wr.cell? ⟨b, 8, none⟩))
  case atStart => exact ⟨c0, r0, n0, v1, rfl, Hmax.out, hst, hkW, rfl⟩
  case round =>
    obtain ⟨c, rest, n, v2, hfeed, hbound, hst, hkr, hown2⟩ := hrel
    obtain ⟨a, cap, rfl, hcap, hcm, hcells⟩ := hst.seg.form
    simp only [n8s_length] at hcap hst hown2
    obtain ⟨k8, k9, kf⟩ := st_cell hst
    have Hst := Lib.hid hst
    have Hfeed := Lib.hid hfeed
    have Hkr := Lib.hid hkr
    have Hown2 := Lib.hid hown2
    have Hcells := Lib.hid hcells
    have Hbound := Lib.hid hbound
    clear hst hfeed hkr hown2 hcells hbound
    by_cases hlt : 64 < rest.length
    · have hltI : (64 : Int) < (rest.length : Int) := by omega
      have k9w : IntKind.u64.wrap ((n : Int) + 64) = ((n + 64 : Nat) : Int) := by simp [IntKind.wrap, IntKind.bits, IntKind.signed]; have := Hbound.out; omega
      have z9 := kf 9
      clear kf
      go_upto_region 3 with (fail)
      refine wp_gen (fun W => StAt W base b T tail ⟨c, rest, n + 64⟩ (.slice a rest.length cap) ∧ Keeps (fun k => k = b) wr W) ?_ ?_
      · refine ⟨⟨?_, ?_, Hst.out.apart, Hst.out.len⟩, keeps_set _ _ _ _⟩
        · have h1 := heap_set Hst.out.blk 9 (.int .u64 ((n + 64 : Nat) : Int))
          rw [st_set9 Hst.out.len] at h1
          exact h1
        · exact Hst.out.seg.kept (S := fun k => k = b) (keeps_set _ _ _ _) Hst.out.apart
      rintro W3 ⟨hst3, hk3⟩
      clear k8 k9 z9 k9w
      have Hk3 := Lib.hid hk3
      clear hk3
      obtain ⟨g, off, ha, -⟩ := Hcells.out 0 _ (show (n8s rest)[0]? = some (.int .u8 (n8 (at8 rest 0))) by simp [n8s, at8]; exact ⟨_, List.getElem?_eq_getElem (by omega), by rw [List.getElem?_eq_getElem (show 0 < rest.length by omega)]; rfl⟩)
      subst ha
      obtain ⟨e0, e1, e2, e3, e4, e5, e6, e7, hc⟩ := list8 hst3.len
      simp only at hc
      subst hc
      have q0 : ∀ x : Ext W3.drew, x.v.cell? ⟨b, 0, none⟩ = some (.int .u32 (n32 e0)) := fun x => (x.cell _ _ (lt_of_block hst3.blk)).trans (by show W3.cell? _ = _; rw [cell_of hst3.blk]; rfl)
      have q1 : ∀ x : Ext W3.drew, x.v.cell? ⟨b, 1, none⟩ = some (.int .u32 (n32 e1)) := fun x => (x.cell _ _ (lt_of_block hst3.blk)).trans (by show W3.cell? _ = _; rw [cell_of hst3.blk]; rfl)
      have q2 : ∀ x : Ext W3.drew, x.v.cell? ⟨b, 2, none⟩ = some (.int .u32 (n32 e2)) := fun x => (x.cell _ _ (lt_of_block hst3.blk)).trans (by show W3.cell? _ = _; rw [cell_of hst3.blk]; rfl)
      have q3 : ∀ x : Ext W3.drew, x.v.cell? ⟨b, 3, none⟩ = some (.int .u32 (n32 e3)) := fun x => (x.cell _ _ (lt_of_block hst3.blk)).trans (by show W3.cell? _ = _; rw [cell_of hst3.blk]; rfl)
      have q4 : ∀ x : Ext W3.drew, x.v.cell? ⟨b, 4, none⟩ = some (.int .u32 (n32 e4)) := fun x => (x.cell _ _ (lt_of_block hst3.blk)).trans (by show W3.cell? _ = _; rw [cell_of hst3.blk]; rfl)
      have q5 : ∀ x : Ext W3.drew, x.v.cell? ⟨b, 5, none⟩ = some (.int .u32 (n32 e5)) := fun x => (x.cell _ _ (lt_of_block hst3.blk)).trans (by show W3.cell? _ = _; rw [cell_of hst3.blk]; rfl)
      have q6 : ∀ x : Ext W3.drew, x.v.cell? ⟨b, 6, none⟩ = some (.int .u32 (n32 e6)) := fun x => (x.cell _ _ (lt_of_block hst3.blk)).trans (by show W3.cell? _ = _; rw [cell_of hst3.blk]; rfl)
      have q7 : ∀ x : Ext W3.drew, x.v.cell? ⟨b, 7, none⟩ = some (.int .u32 (n32 e7)) := fun x => (x.cell _ _ (lt_of_block hst3.blk)).trans (by show W3.cell? _ = _; rw [cell_of hst3.blk]; rfl)
      have q8 : ∀ x : Ext W3.drew, x.v.cell? ⟨b, 8, none⟩ = some (.slice (some ⟨g, off, none⟩) rest.length cap) := fun x => (x.cell _ _ (lt_of_block hst3.blk)).trans (by show W3.cell? _ = _; rw [cell_of hst3.blk]; rfl)
      have q9 : ∀ x : Ext W3.drew, x.v.cell? ⟨b, 9, none⟩ = some (.int .u64 ((n + 64 : Nat) : Int)) := fun x => (x.cell _ _ (lt_of_block hst3.blk)).trans (by show W3.cell? _ = _; rw [cell_of hst3.blk]; rfl)
      have a1 : (64 : Int) ≤ (cap : Int) := by omega
      obtain ⟨ws, hws⟩ : ∃ ws, ws = wordsOf (rest.take 64) := ⟨_, rfl⟩
      have hwl : ws.length = 16 := by rw [hws]; exact length_wordsOf _
      obtain ⟨c2, hc2⟩ : ∃ c2, c2 = compress [e0, e1, e2, e3, e4, e5, e6, e7] ws (n + 64) false := ⟨_, rfl⟩
      have hc2l : c2.length = 8 := by rw [hc2]; exact length_compress _ _ _ _
      have hB : ∀ x : Ext W3.drew, Calls Try.prog 37 #[.slice (some ⟨g, off, none⟩) 64 cap] x.v (Ret (uAgg ws) x.v) := by
        intro x
        have h1 := words_any (some ⟨g, off, none⟩) cap (rest.take 64) x.v (by simp; omega) (bytesAt_take (hst3.seg.below (below_undrew x.below)) 64 (Nat.le_of_lt hlt))
        rw [List.length_take, show min 64 rest.length = 64 by omega, ← hws] at h1
        exact h1
      have hC : ∀ w, Calls Try.prog 18 #[.agg #[.int .u32 (n32 e0), .int .u32 (n32 e1), .int .u32 (n32 e2), .int .u32 (n32 e3), .int .u32 (n32 e4), .int .u32 (n32 e5), .int .u32 (n32 e6), .int .u32 (n32 e7)], uAgg ws, .int .u64 ((n + 64 : Nat) : Int), .bool false] w (Ret (.agg (u32s c2).toArray) w) := by
        intro w
        have h1 := compress_any [e0, e1, e2, e3, e4, e5, e6, e7] ws (n + 64) false w rfl hwl (by have := Hbound.out; omega)
        rw [← hc2] at h1
        exact h1
      have HB := Lib.hid hB
      have HC := Lib.hid hC
      have Hws := Lib.hid hws
      have Hc2 := Lib.hid hc2
      have Hst3 := Lib.hid hst3
      clear hB hC hws hc2 hwl hst3
      obtain ⟨f0, f1, f2, f3, f4, f5, f6, f7, hf⟩ := list8 hc2l
      clear hc2l
      subst hf
      simp only [u32s, List.map] at HC
      refine wp_region_ext 16 (by kernel_rfl) (by kernel_rfl) ?_
      iterate 10 (refine wpX_step (fun K hK => ?_); go_simp; refine hK _ ?_; clear hK K)
      refine wpX_step (fun K hK => ?_)
      go_simp
      refine ⟨_, fun x => HB.out x, hK _ ?_⟩
      clear hK K
      iterate 4 (refine wpX_step (fun K hK => ?_); go_simp; refine hK _ ?_; clear hK K)
      refine wpX_step (fun K hK => ?_)
      go_simp
      refine ⟨_, fun x => HC.out x.v, hK _ ?_⟩
      clear hK K
      refine wpX_nil ?_
      intro X
      have hV := (X.heap _ (lt_of_block Hst3.out.blk)).trans Hst3.out.blk
      have hVs := Hst3.out.seg.below (below_undrew X.below)
      have hVk : Keeps (fun k => k = b) W3 X.v := Keeps.of_below (below_undrew X.below)
      clear q0 q1 q2 q3 q4 q5 q6 q7 q8 q9 HB HC
      generalize X.v = V at hV hVs hVk ⊢
      have z0 := frozen_of hV 0
      have z1 := frozen_of hV 1
      have z2 := frozen_of hV 2
      have z3 := frozen_of hV 3
      have z4 := frozen_of hV 4
      have z5 := frozen_of hV 5
      have z6 := frozen_of hV 6
      have z7 := frozen_of hV 7
      have y0 : V.cell? ⟨b, 0, none⟩ = some (.int .u32 (n32 e0)) := by rw [cell_of hV]; rfl
      have y1 : V.cell? ⟨b, 1, none⟩ = some (.int .u32 (n32 e1)) := by rw [cell_of hV]; rfl
      have y2 : V.cell? ⟨b, 2, none⟩ = some (.int .u32 (n32 e2)) := by rw [cell_of hV]; rfl
      have y3 : V.cell? ⟨b, 3, none⟩ = some (.int .u32 (n32 e3)) := by rw [cell_of hV]; rfl
      have y4 : V.cell? ⟨b, 4, none⟩ = some (.int .u32 (n32 e4)) := by rw [cell_of hV]; rfl
      have y5 : V.cell? ⟨b, 5, none⟩ = some (.int .u32 (n32 e5)) := by rw [cell_of hV]; rfl
      have y6 : V.cell? ⟨b, 6, none⟩ = some (.int .u32 (n32 e6)) := by rw [cell_of hV]; rfl
      have y7 : V.cell? ⟨b, 7, none⟩ = some (.int .u32 (n32 e7)) := by rw [cell_of hV]; rfl
      have HV := Lib.hid hV
      have HVs := Lib.hid hVs
      have HVk := Lib.hid hVk
      clear hV hVs hVk
      go_upto_region 4 with (fail)
      refine wp_gen (fun W => StAt W base b T tail ⟨[f0, f1, f2, f3, f4, f5, f6, f7], rest, n + 64⟩ (.slice (some ⟨g, off, none⟩) rest.length cap) ∧ Keeps (fun k => k = b) V W) ?_ ?_
      · refine ⟨⟨?_, ?_, Hst3.out.apart, rfl⟩, ((((((((keeps_set _ _ _ _).trans (keeps_set _ _ _ _)).trans (keeps_set _ _ _ _)).trans (keeps_set _ _ _ _)).trans (keeps_set _ _ _ _)).trans (keeps_set _ _ _ _)).trans (keeps_set _ _ _ _)).trans (keeps_set _ _ _ _))⟩
        · have h1 := heap_set (heap_set (heap_set (heap_set (heap_set (heap_set (heap_set (heap_set (HV.out) 0 (.int .u32 (n32 f0))) 1 (.int .u32 (n32 f1))) 2 (.int .u32 (n32 f2))) 3 (.int .u32 (n32 f3))) 4 (.int .u32 (n32 f4))) 5 (.int .u32 (n32 f5))) 6 (.int .u32 (n32 f6))) 7 (.int .u32 (n32 f7))
          simp only [stCells, u32s, List.map, List.cons_append, List.nil_append, List.setIfInBounds_toArray, List.set] at h1
          exact h1
        · exact HVs.out.kept (S := fun k => k = b) ((((((((keeps_set _ _ _ _).trans (keeps_set _ _ _ _)).trans (keeps_set _ _ _ _)).trans (keeps_set _ _ _ _)).trans (keeps_set _ _ _ _)).trans (keeps_set _ _ _ _)).trans (keeps_set _ _ _ _)).trans (keeps_set _ _ _ _)) Hst3.out.apart
      rintro W4 ⟨hst4, hk4⟩
      clear y0 y1 y2 y3 y4 y5 y6 y7 z0 z1 z2 z3 z4 z5 z6 z7 HV HVs
      obtain ⟨l8, -, lf⟩ := st_cell hst4
      have lf8 := lf 8
      have Hst4 := Lib.hid hst4
      have Hk4 := Lib.hid hk4
      have hcap64 : ¬ (cap = 64) := by omega
      have hcap64I : ¬ ((cap : Int) = 64) := by omega
      have b1 : (64 : Int) ≤ (rest.length : Int) := by omega
      have b2 : ((rest.length : Int) - 64).toNat = rest.length - 64 := by omega
      have b3 : ((cap : Int) - 64).toNat = cap - 64 := by omega
      clear lf hst4 hk4
      go_wp2
      have h9 := heap_set Hst4.out.blk 8 (.slice (some ⟨g, off + 64, none⟩) (rest.length - 64) (cap - 64))
      rw [st_set8 Hst4.out.len] at h9
      refine ⟨⟨[f0, f1, f2, f3, f4, f5, f6, f7], rest.drop 64, n + 64, .slice (some ⟨g, off + 64, none⟩) (rest.length - 64) (cap - 64), ?_, ?_, ⟨h9, ?_, Hst4.out.apart, rfl⟩, ?_, Hown2.out⟩, ?_⟩
      · rw [Hfeed.out, feed, if_pos hlt, ← Hws.out, ← Hc2.out]
      · have := Hbound.out
        simp only [List.length_drop]
        omega
      · have h1 := Hst4.out.seg.drop 64 (Nat.le_of_lt hlt)
        rw [if_neg hcap64, n8s_drop] at h1
        exact h1.kept (S := fun k => k = b) (keeps_set _ _ _ _) Hst4.out.apart
      · exact Hkr.out.trans ((((Hk3.out.trans HVk.out).trans Hk4.out).trans (keeps_set _ _ _ _)).weak (fun k _ h => Or.inl h))
      · rw [st_cell8 h9 rfl, st_cell8 Hst.out.blk rfl]
        show rest.length - 64 < rest.length
        omega
    · have hltI : ¬ (64 : Int) < (rest.length : Int) := by omega
      go_wp2
      go_end0
      refine ⟨rfl, .slice a rest.length cap, ?_, Hkr.out, ?_⟩
      · rw [Hfeed.out, feed, if_neg hlt]
        exact Hst.out
      · rw [Hown2.out]
        exact Hown1.out

end Go.Proofs.Ytkkoldfaplonaaa
