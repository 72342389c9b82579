/- The contracts of Sum, the program's and the reference's. -/
import Derived.Test.YtnfcohpljgmaiaaDb
import Derived.Deep.CutBlock
import Derived.Laws.IdiomStrings
import Derived.Lib.Strings
import Derived.Lib.BufferWrite
import Derived.Lib.SlBuf
namespace Go.Proofs.Ytnfcohpljgmaiaa

/-! ### SumR -/
section
open Go.RowKit

/-- A list of bytes as a string. -/
def S8 (l : List UInt8) : ByteArray := ⟨l.toArray⟩

theorem length_chain0 (k : Nat) : (chain0 k).length = 8 := rfl

def n8s (l : List UInt8) : List Value := l.map fun x => .int .u8 (n8 x)
theorem byteAt_eq (x : UInt32) (j : Nat) : IntKind.u8.wrap (n32 x / 2 ^ (8 * j)) = n8 (byteAt x j) := by
  unfold n8 n32 byteAt
  rw [UInt8.toNat_ofNat']
  have : ((x.toNat : Int) / 2 ^ (8 * j)) = ((x.toNat / 2 ^ (8 * j) : Nat) : Int) := by simp
  rw [this]
  simp [IntKind.wrap, IntKind.bits, IntKind.signed]

end

/-! ### Take -/
section
open Go.RowKit

/-- The cells of a state: chain, rest, count. -/
def stCells (c : List UInt32) (v : Value) (n : Nat) : List Value := u32s c ++ [v, .int .u64 (n : Int)]

/-- A state lies at the head of block b, other cells behind it; its rest is the slice v, which owns its bytes. -/
structure StAt (w : World) (base b : Nat) (T : TypeId) (tail : List Value) (st : St) (v : Value) : Prop where
  blk : w.heap[b]? = some (.cells (stCells st.chain v st.count ++ tail).toArray T (0, 0))
  seg : Seg w base 5 v (n8s st.rest)
  apart : ∀ g, v.ownBlock = some g → g ≠ b
  len : st.chain.length = 8

def sliceLen : Option Value → Nat
  | some (.slice _ n _) => n
  | _ => 0

theorem strCells_n8s (s : ByteArray) : Lib.strCells s = n8s s.data.toList := rfl
theorem n8s_append (a b : List UInt8) : n8s a ++ n8s b = n8s (a ++ b) := by simp [n8s]
theorem n8s_length (a : List UInt8) : (n8s a).length = a.length := by simp [n8s]
theorem n8s_drop (a : List UInt8) (k : Nat) : (n8s a).drop k = n8s (a.drop k) := by simp [n8s, List.map_drop]

/-- What take leaves. -/
def TakePost (w : World) (base b : Nat) (T : TypeId) (tail : List Value) (st : St) (v : Value) : Ending → World → Prop := fun e w' =>
  e = .returned (.tuple #[]) ∧ ∃ v', StAt w' base b T tail st v' ∧ Keeps (fun k => k = b ∨ some k = v.ownBlock) w w' ∧ (v'.ownBlock = v.ownBlock ∨ v'.ownBlock = some w.heap.size)

theorem st_cell {w : World} {base b : Nat} {T : TypeId} {tail : List Value} {st : St} {v : Value} (h : StAt w base b T tail st v) :
    w.cell? ⟨b, 8, none⟩ = some v ∧ w.cell? ⟨b, 9, none⟩ = some (.int .u64 (st.count : Int)) ∧ ∀ j, w.frozen? ⟨b, j, none⟩ = false := by
  obtain ⟨h0, _, _, h8⟩ := h
  obtain ⟨e0, e1, e2, e3, e4, e5, e6, e7, hc⟩ := list8 h8
  rw [hc] at h0
  refine ⟨by rw [cell_of h0]; rfl, by rw [cell_of h0]; rfl, fun j => frozen_of h0 j⟩

theorem bytesAt_take {w : World} {base g off n cap : Nat} {l : List UInt8} (h : Seg w base 5 (.slice (some ⟨g, off, none⟩) n cap) (n8s l)) (k : Nat) (hk : k ≤ l.length) : BytesAt w (some ⟨g, off, none⟩) (l.take k) := by
  intro j hj
  obtain ⟨a, cap', he, -, -, hx⟩ := h.form
  simp only [List.length_take] at hj
  obtain ⟨g', off', ha, hc⟩ := hx j (.int .u8 (n8 (at8 l j))) (by simp [n8s, at8, List.getElem?_eq_getElem (show j < l.length by omega)])
  refine ⟨g, off, rfl, ?_⟩
  injection he with he
  rw [ha] at he
  injection he with he
  injection he with he1 he2
  subst he1 he2
  rw [hc]
  simp [at8, List.getD_eq_getElem?_getD, List.getElem?_take_of_lt (show j < k by omega)]
theorem keeps_set (w : World) (b o : Nat) (u : Value) : Keeps (fun k => k = b) w (w.setCell ⟨b, o, none⟩ u) := (Keeps.refl (fun k => k = b) w).setCell (p := ⟨b, o, none⟩) (fun _ => rfl) u
theorem st_cell8 {w : World} {b : Nat} {T : TypeId} {c : List UInt32} {v : Value} {n : Nat} {tail : List Value} (h0 : w.heap[b]? = some (.cells (stCells c v n ++ tail).toArray T (0, 0))) (h8 : c.length = 8) : w.cell? ⟨b, 8, none⟩ = some v := by
  obtain ⟨e0, e1, e2, e3, e4, e5, e6, e7, hc⟩ := list8 h8
  rw [hc] at h0
  rw [cell_of h0]
  rfl
theorem st_set8 {c : List UInt32} {v u : Value} {n : Nat} {tail : List Value} (h8 : c.length = 8) : (stCells c v n ++ tail).toArray.setIfInBounds 8 u = (stCells c u n ++ tail).toArray := by
  obtain ⟨e0, e1, e2, e3, e4, e5, e6, e7, hc⟩ := list8 h8
  rw [hc]
  simp [stCells, u32s]
theorem st_set9 {c : List UInt32} {v : Value} {n m : Nat} {tail : List Value} (h8 : c.length = 8) : (stCells c v n ++ tail).toArray.setIfInBounds 9 (.int .u64 (m : Int)) = (stCells c v m ++ tail).toArray := by
  obtain ⟨e0, e1, e2, e3, e4, e5, e6, e7, hc⟩ := list8 h8
  rw [hc]
  simp [stCells, u32s]

set_option maxRecDepth 100000 in
set_option maxHeartbeats 2000000 in
theorem take_any (base b : Nat) (T : TypeId) (tail : List Value) (st : St) (v : Value) (s : ByteArray) (w : World) (h : StAt w base b T tail st v)
    (hbase : base ≤ w.heap.size) (hn : st.count + st.rest.length + s.size ≤ 140737488355328) :
    Calls Try.prog 53 #[.pointer (some ⟨b, 0, none⟩), .string s] w (TakePost w base b T tail (take1 st s.data.toList) v) := by
  obtain ⟨c8, c9, cf⟩ := st_cell h
  have f8 := cf 8
  have i0 : (Try.prog.info? 5).map (fun i => (i.zero, i.size, i.bytes)) = some (some (.int .u8 0), 1, 1) := by kernel_rfl
  obtain ⟨i5, hi5, hz5, hs5, hb5⟩ := info_parts i0
  have hl8 : (n8s st.rest).length + s.size ≤ 140737488355328 := by rw [n8s_length]; omega
  have H := Lib.hid h
  have Happ := Lib.hid (fun (w : World) (h : Seg w base 5 v (n8s st.rest)) (hb : base ≤ w.heap.size) => run_append_seg_string (P := Try.prog) w base 44 9 44 5 i5 Try.underlying44 Try.underlying9 hi5 hz5 hs5 hb5 v (n8s st.rest) h s hl8 hb)
  clear cf h i0
  go_enter Try.func53, Try.ntmps53
  have hne := H.out.apart
  have hbS : ¬ (some b = v.ownBlock) := fun e => hne b e.symm rfl
  have Hne := Lib.hid hbS
  clear hne hbS
  go_wp2_with (refine wpList_append_seg_string _ rfl (.tmp 8) (.tmp 9) 44 9 rfl base 5 i5 Try.underlying44 Try.underlying9 hi5 hz5 hs5 hb5 v _ rfl H.out.seg s rfl hl8 hbase ?_; intro v1 w1 hseg1 hk1 hown1; have c18 := st_cell8 (hk1.heap H.out.blk Hne.out) H.out.len; have f18 := frozen_of (hk1.heap H.out.blk Hne.out) 8; have Hseg1 := Lib.hid hseg1; have Hk1 := Lib.hid hk1; have Hown1 := Lib.hid hown1; obtain ⟨a1, cap1, hv1, -, -, -⟩ := hseg1.form; clear hseg1 hk1 hown1; generalize (n8s st.rest ++ Lib.strCells s).length = l1 at hv1; subst hv1)
  obtain ⟨v1, hv1⟩ : ∃ v1, v1 = Value.slice a1 l1 cap1 := ⟨_, rfl⟩
  rw [← hv1] at Hseg1 Hown1 ⊢
  clear hv1
  clear c8 c9 f8 c18 f18
  have ap1 : ∀ g, v1.ownBlock = some g → g ≠ b := fun g hg e => by
    subst e
    rcases Hown1.out with h | h
    · exact H.out.apart g (h.symm.trans hg) rfl
    · have h1 := lt_of_block H.out.blk
      rw [h] at hg
      injection hg with hg
      omega
  have hb1 := Hk1.out.heap H.out.blk Hne.out
  refine wp_gen (fun W => StAt W base b T tail ⟨st.chain, st.rest ++ s.data.toList, st.count⟩ v1 ∧ Keeps (fun k => k = b ∨ some k = v.ownBlock) w W) ?_ ?_
  · refine ⟨⟨?_, ?_, ap1, H.out.len⟩, ?_⟩
    · have h1 := heap_set hb1 8 v1
      rw [st_set8 H.out.len] at h1
      exact h1
    · have h1 := Hseg1.out
      rw [strCells_n8s, n8s_append] at h1
      exact h1.kept (S := fun k => k = b) (keeps_set _ _ _ _) (fun k hk => ap1 k hk)
    · exact Keeps.setCell (p := ⟨b, 8, none⟩) (Hk1.out.weak (T := fun k => k = b ∨ some k = v.ownBlock) (fun k _ h => Or.inr h)) (fun _ => Or.inl rfl) _
  rintro W ⟨hst, hkW⟩
  have hlen0 : st.count + (st.rest ++ s.data.toList).length = st.count + st.rest.length + s.size := by rw [List.length_append, Nat.add_assoc]; simp
  clear ap1 hb1 Hseg1 Hk1
  obtain ⟨c0, hc0⟩ : ∃ c0, c0 = st.chain := ⟨_, rfl⟩
  obtain ⟨r0, hr0⟩ : ∃ r0, r0 = st.rest ++ s.data.toList := ⟨_, rfl⟩
  obtain ⟨n0, hn0⟩ : ∃ n0, n0 = st.count := ⟨_, rfl⟩
  rw [← hc0, ← hr0, ← hn0] at hst
  rw [← hr0, ← hn0] at hlen0
  have hpost : take1 st s.data.toList = feed c0 r0 n0 := by rw [hc0, hr0, hn0]; rfl
  rw [hpost]
  have hmax : n0 + r0.length ≤ 140737488355328 := by omega
  have Hmax := Lib.hid hmax
  clear hc0 hr0 hn0 hpost hlen0 hn hl8 hmax
  go_loopw [] (fun wr => ∃ (c : List UInt32) (rest : List UInt8) (n : Nat) (v2 : Value), feed c0 r0 n0 = feed c rest n ∧ n + rest.length ≤ 140737488355328 ∧ StAt wr base b T tail ⟨c, rest, n⟩ v2 ∧ Keeps (fun k => k = b ∨ some k = v.ownBlock) w wr ∧ v2.ownBlock = v1.ownBlock) (fun wr => sliceLen (wr.cell? ⟨b, 8, none⟩))
  case atStart => exact ⟨c0, r0, n0, v1, rfl, Hmax.out, hst, hkW, rfl⟩
  case round =>
    obtain ⟨c, rest, n, v2, hfeed, hbound, hst, hkr, hown2⟩ := hrel
    obtain ⟨a, cap, rfl, hcap, hcm, hcells⟩ := hst.seg.form
    simp only [n8s_length] at hcap hst hown2
    obtain ⟨k8, k9, kf⟩ := st_cell hst
    have Hst := Lib.hid hst
    have Hfeed := Lib.hid hfeed
    have Hkr := Lib.hid hkr
    have Hown2 := Lib.hid hown2
    have Hcells := Lib.hid hcells
    have Hbound := Lib.hid hbound
    clear hst hfeed hkr hown2 hcells hbound
    by_cases hlt : 64 < rest.length
    · have hltI : (64 : Int) < (rest.length : Int) := by omega
      have k9w : IntKind.u64.wrap ((n : Int) + 64) = ((n + 64 : Nat) : Int) := by simp [IntKind.wrap, IntKind.bits, IntKind.signed]; have := Hbound.out; omega
      have z9 := kf 9
      clear kf
      go_upto_region 3 with (fail)
      refine wp_gen (fun W => StAt W base b T tail ⟨c, rest, n + 64⟩ (.slice a rest.length cap) ∧ Keeps (fun k => k = b) wr W) ?_ ?_
      · refine ⟨⟨?_, ?_, Hst.out.apart, Hst.out.len⟩, keeps_set _ _ _ _⟩
        · have h1 := heap_set Hst.out.blk 9 (.int .u64 ((n + 64 : Nat) : Int))
          rw [st_set9 Hst.out.len] at h1
          exact h1
        · exact Hst.out.seg.kept (S := fun k => k = b) (keeps_set _ _ _ _) Hst.out.apart
      rintro W3 ⟨hst3, hk3⟩
      clear k8 k9 z9 k9w
      have Hk3 := Lib.hid hk3
      clear hk3
      obtain ⟨g, off, ha, -⟩ := Hcells.out 0 _ (show (n8s rest)[0]? = some (.int .u8 (n8 (at8 rest 0))) by simp [n8s, at8]; exact ⟨_, List.getElem?_eq_getElem (by omega), by rw [List.getElem?_eq_getElem (show 0 < rest.length by omega)]; rfl⟩)
      subst ha
      obtain ⟨e0, e1, e2, e3, e4, e5, e6, e7, hc⟩ := list8 hst3.len
      simp only at hc
      subst hc
      have q0 : ∀ x : Ext W3.drew, x.v.cell? ⟨b, 0, none⟩ = some (.int .u32 (n32 e0)) := fun x => (x.cell _ _ (lt_of_block hst3.blk)).trans (by show W3.cell? _ = _; rw [cell_of hst3.blk]; rfl)
      have q1 : ∀ x : Ext W3.drew, x.v.cell? ⟨b, 1, none⟩ = some (.int .u32 (n32 e1)) := fun x => (x.cell _ _ (lt_of_block hst3.blk)).trans (by show W3.cell? _ = _; rw [cell_of hst3.blk]; rfl)
      have q2 : ∀ x : Ext W3.drew, x.v.cell? ⟨b, 2, none⟩ = some (.int .u32 (n32 e2)) := fun x => (x.cell _ _ (lt_of_block hst3.blk)).trans (by show W3.cell? _ = _; rw [cell_of hst3.blk]; rfl)
      have q3 : ∀ x : Ext W3.drew, x.v.cell? ⟨b, 3, none⟩ = some (.int .u32 (n32 e3)) := fun x => (x.cell _ _ (lt_of_block hst3.blk)).trans (by show W3.cell? _ = _; rw [cell_of hst3.blk]; rfl)
      have q4 : ∀ x : Ext W3.drew, x.v.cell? ⟨b, 4, none⟩ = some (.int .u32 (n32 e4)) := fun x => (x.cell _ _ (lt_of_block hst3.blk)).trans (by show W3.cell? _ = _; rw [cell_of hst3.blk]; rfl)
      have q5 : ∀ x : Ext W3.drew, x.v.cell? ⟨b, 5, none⟩ = some (.int .u32 (n32 e5)) := fun x => (x.cell _ _ (lt_of_block hst3.blk)).trans (by show W3.cell? _ = _; rw [cell_of hst3.blk]; rfl)
      have q6 : ∀ x : Ext W3.drew, x.v.cell? ⟨b, 6, none⟩ = some (.int .u32 (n32 e6)) := fun x => (x.cell _ _ (lt_of_block hst3.blk)).trans (by show W3.cell? _ = _; rw [cell_of hst3.blk]; rfl)
      have q7 : ∀ x : Ext W3.drew, x.v.cell? ⟨b, 7, none⟩ = some (.int .u32 (n32 e7)) := fun x => (x.cell _ _ (lt_of_block hst3.blk)).trans (by show W3.cell? _ = _; rw [cell_of hst3.blk]; rfl)
      have q8 : ∀ x : Ext W3.drew, x.v.cell? ⟨b, 8, none⟩ = some (.slice (some ⟨g, off, none⟩) rest.length cap) := fun x => (x.cell _ _ (lt_of_block hst3.blk)).trans (by show W3.cell? _ = _; rw [cell_of hst3.blk]; rfl)
      have q9 : ∀ x : Ext W3.drew, x.v.cell? ⟨b, 9, none⟩ = some (.int .u64 ((n + 64 : Nat) : Int)) := fun x => (x.cell _ _ (lt_of_block hst3.blk)).trans (by show W3.cell? _ = _; rw [cell_of hst3.blk]; rfl)
      have a1 : (64 : Int) ≤ (cap : Int) := by omega
      obtain ⟨ws, hws⟩ : ∃ ws, ws = wordsOf (rest.take 64) := ⟨_, rfl⟩
      have hwl : ws.length = 16 := by rw [hws]; exact length_wordsOf _
      obtain ⟨c2, hc2⟩ : ∃ c2, c2 = compress [e0, e1, e2, e3, e4, e5, e6, e7] ws (n + 64) false := ⟨_, rfl⟩
      have hc2l : c2.length = 8 := by rw [hc2]; exact length_compress _ _ _ _
      have hB : ∀ x : Ext W3.drew, Calls Try.prog 63 #[.slice (some ⟨g, off, none⟩) 64 cap] x.v (Ret (uAgg ws) x.v) := by
        intro x
        have h1 := words_any (some ⟨g, off, none⟩) cap (rest.take 64) x.v (by simp; omega) (bytesAt_take (hst3.seg.below (below_undrew x.below)) 64 (Nat.le_of_lt hlt))
        rw [List.length_take, show min 64 rest.length = 64 by omega, ← hws] at h1
        exact h1
      have hC : ∀ w, Calls Try.prog 62 #[.agg #[.int .u32 (n32 e0), .int .u32 (n32 e1), .int .u32 (n32 e2), .int .u32 (n32 e3), .int .u32 (n32 e4), .int .u32 (n32 e5), .int .u32 (n32 e6), .int .u32 (n32 e7)], uAgg ws, .int .u64 ((n + 64 : Nat) : Int), .bool false] w (Ret (.agg (u32s c2).toArray) w) := by
        intro w
        have h1 := compress_any [e0, e1, e2, e3, e4, e5, e6, e7] ws (n + 64) false w rfl hwl (by have := Hbound.out; omega)
        rw [← hc2] at h1
        exact h1
      have HB := Lib.hid hB
      have HC := Lib.hid hC
      have Hws := Lib.hid hws
      have Hc2 := Lib.hid hc2
      have Hst3 := Lib.hid hst3
      clear hB hC hws hc2 hwl hst3
      obtain ⟨f0, f1, f2, f3, f4, f5, f6, f7, hf⟩ := list8 hc2l
      clear hc2l
      subst hf
      simp only [u32s, List.map] at HC
      refine wp_region_ext 16 (by kernel_rfl) (by kernel_rfl) ?_
      iterate 10 (refine wpX_step (fun K hK => ?_); go_simp; refine hK _ ?_; clear hK K)
      refine wpX_step (fun K hK => ?_)
      go_simp
      refine ⟨_, fun x => HB.out x, hK _ ?_⟩
      clear hK K
      iterate 4 (refine wpX_step (fun K hK => ?_); go_simp; refine hK _ ?_; clear hK K)
      refine wpX_step (fun K hK => ?_)
      go_simp
      refine ⟨_, fun x => HC.out x.v, hK _ ?_⟩
      clear hK K
      refine wpX_nil ?_
      intro X
      have hV := (X.heap _ (lt_of_block Hst3.out.blk)).trans Hst3.out.blk
      have hVs := Hst3.out.seg.below (below_undrew X.below)
      have hVk : Keeps (fun k => k = b) W3 X.v := Keeps.of_below (below_undrew X.below)
      clear q0 q1 q2 q3 q4 q5 q6 q7 q8 q9 HB HC
      generalize X.v = V at hV hVs hVk ⊢
      have z0 := frozen_of hV 0
      have z1 := frozen_of hV 1
      have z2 := frozen_of hV 2
      have z3 := frozen_of hV 3
      have z4 := frozen_of hV 4
      have z5 := frozen_of hV 5
      have z6 := frozen_of hV 6
      have z7 := frozen_of hV 7
      have y0 : V.cell? ⟨b, 0, none⟩ = some (.int .u32 (n32 e0)) := by rw [cell_of hV]; rfl
      have y1 : V.cell? ⟨b, 1, none⟩ = some (.int .u32 (n32 e1)) := by rw [cell_of hV]; rfl
      have y2 : V.cell? ⟨b, 2, none⟩ = some (.int .u32 (n32 e2)) := by rw [cell_of hV]; rfl
      have y3 : V.cell? ⟨b, 3, none⟩ = some (.int .u32 (n32 e3)) := by rw [cell_of hV]; rfl
      have y4 : V.cell? ⟨b, 4, none⟩ = some (.int .u32 (n32 e4)) := by rw [cell_of hV]; rfl
      have y5 : V.cell? ⟨b, 5, none⟩ = some (.int .u32 (n32 e5)) := by rw [cell_of hV]; rfl
      have y6 : V.cell? ⟨b, 6, none⟩ = some (.int .u32 (n32 e6)) := by rw [cell_of hV]; rfl
      have y7 : V.cell? ⟨b, 7, none⟩ = some (.int .u32 (n32 e7)) := by rw [cell_of hV]; rfl
      have HV := Lib.hid hV
      have HVs := Lib.hid hVs
      have HVk := Lib.hid hVk
      clear hV hVs hVk
      go_upto_region 4 with (fail)
      refine wp_gen (fun W => StAt W base b T tail ⟨[f0, f1, f2, f3, f4, f5, f6, f7], rest, n + 64⟩ (.slice (some ⟨g, off, none⟩) rest.length cap) ∧ Keeps (fun k => k = b) V W) ?_ ?_
      · refine ⟨⟨?_, ?_, Hst3.out.apart, rfl⟩, ((((((((keeps_set _ _ _ _).trans (keeps_set _ _ _ _)).trans (keeps_set _ _ _ _)).trans (keeps_set _ _ _ _)).trans (keeps_set _ _ _ _)).trans (keeps_set _ _ _ _)).trans (keeps_set _ _ _ _)).trans (keeps_set _ _ _ _))⟩
        · have h1 := heap_set (heap_set (heap_set (heap_set (heap_set (heap_set (heap_set (heap_set (HV.out) 0 (.int .u32 (n32 f0))) 1 (.int .u32 (n32 f1))) 2 (.int .u32 (n32 f2))) 3 (.int .u32 (n32 f3))) 4 (.int .u32 (n32 f4))) 5 (.int .u32 (n32 f5))) 6 (.int .u32 (n32 f6))) 7 (.int .u32 (n32 f7))
          simp only [stCells, u32s, List.map, List.cons_append, List.nil_append, List.setIfInBounds_toArray, List.set] at h1
          exact h1
        · exact HVs.out.kept (S := fun k => k = b) ((((((((keeps_set _ _ _ _).trans (keeps_set _ _ _ _)).trans (keeps_set _ _ _ _)).trans (keeps_set _ _ _ _)).trans (keeps_set _ _ _ _)).trans (keeps_set _ _ _ _)).trans (keeps_set _ _ _ _)).trans (keeps_set _ _ _ _)) Hst3.out.apart
      rintro W4 ⟨hst4, hk4⟩
      clear y0 y1 y2 y3 y4 y5 y6 y7 z0 z1 z2 z3 z4 z5 z6 z7 HV HVs
      obtain ⟨l8, -, lf⟩ := st_cell hst4
      have lf8 := lf 8
      have Hst4 := Lib.hid hst4
      have Hk4 := Lib.hid hk4
      have hcap64 : ¬ (cap = 64) := by omega
      have hcap64I : ¬ ((cap : Int) = 64) := by omega
      have b1 : (64 : Int) ≤ (rest.length : Int) := by omega
      have b2 : ((rest.length : Int) - 64).toNat = rest.length - 64 := by omega
      have b3 : ((cap : Int) - 64).toNat = cap - 64 := by omega
      clear lf hst4 hk4
      go_wp2
      have h9 := heap_set Hst4.out.blk 8 (.slice (some ⟨g, off + 64, none⟩) (rest.length - 64) (cap - 64))
      rw [st_set8 Hst4.out.len] at h9
      refine ⟨⟨[f0, f1, f2, f3, f4, f5, f6, f7], rest.drop 64, n + 64, .slice (some ⟨g, off + 64, none⟩) (rest.length - 64) (cap - 64), ?_, ?_, ⟨h9, ?_, Hst4.out.apart, rfl⟩, ?_, Hown2.out⟩, ?_⟩
      · rw [Hfeed.out, feed, if_pos hlt, ← Hws.out, ← Hc2.out]
      · have := Hbound.out
        simp only [List.length_drop]
        omega
      · have h1 := Hst4.out.seg.drop 64 (Nat.le_of_lt hlt)
        rw [if_neg hcap64, n8s_drop] at h1
        exact h1.kept (S := fun k => k = b) (keeps_set _ _ _ _) Hst4.out.apart
      · exact Hkr.out.trans ((((Hk3.out.trans HVk.out).trans Hk4.out).trans (keeps_set _ _ _ _)).weak (fun k _ h => Or.inl h))
      · rw [st_cell8 h9 rfl, st_cell8 Hst.out.blk rfl]
        show rest.length - 64 < rest.length
        omega
    · have hltI : ¬ (64 : Int) < (rest.length : Int) := by omega
      go_wp2
      go_end0
      refine ⟨rfl, .slice a rest.length cap, ?_, Hkr.out, ?_⟩
      · rw [Hfeed.out, feed, if_neg hlt]
        exact Hst.out
      · rw [Hown2.out]
        exact Hown1.out
end

/-! ### Start -/
section
open Go.RowKit

theorem key_word (k : Nat) (hk : k ≤ 32) : n32 (16842784 + 256 * UInt32.ofNat k) = 16842784 + 256 * (k : Int) := by
  have h : ∀ j, j < 33 → n32 (16842784 + 256 * UInt32.ofNat j) = 16842784 + 256 * (j : Int) := by decide +kernel
  exact h k (by omega)
theorem chain0_start (k : Nat) (hk : k ≤ 32) : bits .xor .u32 (n32 1779033703) (16842784 + 256 * (k : Int)) = n32 (0x6a09e667 ^^^ (16842784 + 256 * UInt32.ofNat k)) := by
  rw [← key_word k hk, u32_xor_n]

/-- What start gives: a state whose rest is new memory. -/
def StartPost (w : World) (st : St) : Ending → World → Prop := fun e w' =>
  ∃ v, e = .returned (.agg (stCells st.chain v st.count).toArray) ∧ Seg w' w.heap.size 5 v (n8s st.rest) ∧ Below w.heap.size w w'

theorem padKey_nil (key : ByteArray) (h : key.size = 0) : padKey key.data.toList = [] := by
  have : key.data.toList = [] := List.eq_nil_of_length_eq_zero (by simpa using h)
  rw [this]
  rfl
theorem padKey_cons (key : ByteArray) (h : key.size ≠ 0) : padKey key.data.toList = key.data.toList ++ List.replicate (64 - key.size) 0 := by
  unfold padKey
  rw [if_neg (fun e => h (by have : key.data.toList.length = 0 := by rw [e]; rfl
                             simpa using this))]
  simp
theorem n8s_zeros (n : Nat) : n8s (List.replicate n 0) = List.replicate n (.int .u8 0) := by simp [n8s, n8]

theorem empty_of (s : ByteArray) (h : s.size = 0) : s.toList.isEmpty = true := by
  rw [Lib.toList_data]
  have : s.data.toList = [] := List.eq_nil_of_length_eq_zero (by simpa using h)
  rw [this]
  rfl
theorem nonempty_of (s : ByteArray) (h : s.size ≠ 0) : s.toList.isEmpty = false := by
  rw [Lib.toList_data]
  have : s.data.toList.length ≠ 0 := by simpa using h
  cases hl : s.data.toList with
  | nil => rw [hl] at this; exact absurd rfl this
  | cons a l => rfl
theorem pad_cells (key : ByteArray) (h : key.size ≠ 0) : Lib.strCells key ++ List.replicate (64 - key.size) (.int .u8 0) = n8s (padKey key.data.toList) := by
  rw [padKey_cons key h, strCells_n8s, ← n8s_zeros, n8s_append]

set_option maxRecDepth 100000 in
set_option maxHeartbeats 2000000 in
theorem start_any (key : ByteArray) (w : World) (hk : key.size ≤ 32) :
    Calls Try.prog 52 #[.string key] w (StartPost w (start0 key.data.toList)) := by
  have i0 : (Try.prog.info? 5).map (fun i => (i.zero, i.size, i.bytes)) = some (some (.int .u8 0), 1, 1) := by kernel_rfl
  obtain ⟨i5, hi5, hz5, hs5, hb5⟩ := info_parts i0
  have hini := fun w => initial_any w
  simp only [uAgg, u32s, iv, List.map] at hini
  have Hini := Lib.hid hini
  clear hini i0
  go_enter Try.func52, Try.ntmps52
  go_upto_region 3 with (go_at_call 61; (with_reducible refine (Hini.out _).mono ?_); rintro e w1 ⟨rfl, hb⟩)
  have hx0 := chain0_start key.size hk
  rw [hx0]
  clear hx0
  refine wp_gen (fun W => Below w.heap.size w W ∧ (∃ z, W.heap[w.heap.size]? = some (.cells z 67 (0, 0)) ∧ z.size = 10) ∧ W.heap[w1.heap.size]? = some (.cells (stCells (chain0 key.size) (.slice none 0 0) 0).toArray 67 (0, 0))) ?_ ?_
  · have hb1 := below_then ((Below.refl w.heap.size w).alloc (Nat.le_refl _) _) (by simp) hb
    exact ⟨hb1.alloc hb1.size _, ⟨_, heap_old (heap_below (heap_new w _) hb (by simp)) _, rfl⟩, heap_new _ _⟩
  have hlt1 : w.heap.size < w1.heap.size := by have := hb.size; simp at this; omega
  rintro W ⟨hW, ⟨z, hz, hzs⟩, hs⟩
  obtain ⟨b0, hb0⟩ : ∃ b, b = w.heap.size := ⟨_, rfl⟩
  obtain ⟨b1, hb1⟩ : ∃ b, b = w1.heap.size := ⟨_, rfl⟩
  rw [← hb1] at hs hlt1 ⊢
  rw [← hb0] at hz hlt1 ⊢
  clear hb hb1 Hini
  obtain ⟨c, hc⟩ : ∃ c, c = chain0 key.size := ⟨_, rfl⟩
  rw [← hc] at hs
  have hcl : c.length = 8 := by rw [hc]; rfl
  have Hc := Lib.hid hc
  have Hb0 := Lib.hid hb0
  have hb0w : w.heap.size ≤ b0 := by rw [hb0]; exact Nat.le_refl _
  have hb1w : w.heap.size ≤ b1 := by omega
  clear hc hb0
  obtain ⟨e0, e1, e2, e3, e4, e5, e6, e7, rfl⟩ := list8 hcl
  clear hcl
  by_cases h0 : key.size = 0
  · have hke := empty_of key h0
    have hs6 := hs
    have hz6 := hz
    have q0 : W.cell? ⟨b1, 0, none⟩ = some (.int .u32 (n32 e0)) := by rw [cell_of hs6]; rfl
    have q1 : W.cell? ⟨b1, 1, none⟩ = some (.int .u32 (n32 e1)) := by rw [cell_of hs6]; rfl
    have q2 : W.cell? ⟨b1, 2, none⟩ = some (.int .u32 (n32 e2)) := by rw [cell_of hs6]; rfl
    have q3 : W.cell? ⟨b1, 3, none⟩ = some (.int .u32 (n32 e3)) := by rw [cell_of hs6]; rfl
    have q4 : W.cell? ⟨b1, 4, none⟩ = some (.int .u32 (n32 e4)) := by rw [cell_of hs6]; rfl
    have q5 : W.cell? ⟨b1, 5, none⟩ = some (.int .u32 (n32 e5)) := by rw [cell_of hs6]; rfl
    have q6 : W.cell? ⟨b1, 6, none⟩ = some (.int .u32 (n32 e6)) := by rw [cell_of hs6]; rfl
    have q7 : W.cell? ⟨b1, 7, none⟩ = some (.int .u32 (n32 e7)) := by rw [cell_of hs6]; rfl
    have q8 : W.cell? ⟨b1, 8, none⟩ = some (.slice none 0 0) := by rw [cell_of hs6]; rfl
    have q9 : W.cell? ⟨b1, 9, none⟩ = some (.int .u64 0) := by rw [cell_of hs6]; rfl
    have Hs6 := Lib.hid hs6
    clear hs6
    go_wp2_with (refine wpList_store_row rfl 67 _ _ rfl b0 #[.int .u32 (n32 e0), .int .u32 (n32 e1), .int .u32 (n32 e2), .int .u32 (n32 e3), .int .u32 (n32 e4), .int .u32 (n32 e5), .int .u32 (n32 e6), .int .u32 (n32 e7), (.slice none 0 0), .int .u64 0] rfl rfl 67 _ hz6 (by kernel_rfl) hzs (by simp [Value.oneCell']) ?_)
    (try simp only [Exit.inBlock, Exit.then])
    refine bodyPost_ret (results_cell_row rfl _ _ b0 67 #[.int .u32 (n32 e0), .int .u32 (n32 e1), .int .u32 (n32 e2), .int .u32 (n32 e3), .int .u32 (n32 e4), .int .u32 (n32 e5), .int .u32 (n32 e6), .int .u32 (n32 e7), (.slice none 0 0), .int .u64 0] (0, 0) _ rfl (setRow_heap _ _ _ _ _ _ hz6) Try.underlying67 rfl (by kernel_rfl)) rfl ?_
    refine ⟨(.slice none 0 0), ?_, (by show Seg _ _ _ _ (n8s (padKey key.data.toList)); rw [padKey_nil key h0]; exact Seg.nil _ _ _), below_setRow hW hb0w _⟩
    show _ = Ending.returned (.agg (stCells (chain0 key.data.toList.length) (.slice none 0 0) 0).toArray)
    rw [show key.data.toList.length = key.size from by simp, ← Hc.out]
    rfl
  · have hke := nonempty_of key h0
    have q8 : W.cell? ⟨b1, 8, none⟩ = some (.slice none 0 0) := by rw [cell_of hs]; rfl
    have z8 := frozen_of hs 8
    have hbW : b1 < W.heap.size := lt_of_block hs
    have hWsz : w.heap.size ≤ W.heap.size := hW.size
    have Hs := Lib.hid hs
    have Hz := Lib.hid hz
    have HW := Lib.hid hW
    clear hs hz hW
    go_upto_region 5 with (at_builtin; refine wpList_append_seg_string _ rfl (.tmp 20) (.tmp 21) 44 9 rfl W.heap.size 5 i5 Try.underlying44 Try.underlying9 hi5 hz5 hs5 hb5 (.slice none 0 0) [] rfl (Seg.nil _ _ _) key rfl (by simp; omega) (Nat.le_refl _) ?_; intro v1 w2 hseg1 hk1 hown1; have r8 := (cell_of (hk1.heap Hs.out (by intro h; cases h)) 8).trans (show _ = some (Value.slice none 0 0) from rfl); have y8 := frozen_of (hk1.heap Hs.out (by intro h; cases h)) 8; have Hseg1 := Lib.hid hseg1; have Hk1 := Lib.hid hk1; obtain ⟨a1, cap1, hv1, -, -, -⟩ := hseg1.form; clear hseg1 hk1 hown1; generalize ([] ++ Lib.strCells key).length = l1 at hv1; subst hv1)
    obtain ⟨v1, hv1⟩ : ∃ v1, v1 = Value.slice a1 l1 cap1 := ⟨_, rfl⟩
    rw [← hv1] at Hseg1 ⊢
    clear hv1
    refine wp_gen (fun W5 => Below w.heap.size w W5 ∧ W5.heap[b0]? = some (.cells z 67 (0, 0)) ∧ W5.heap[b1]? = some (.cells (stCells [e0, e1, e2, e3, e4, e5, e6, e7] v1 0).toArray 67 (0, 0)) ∧ Seg W5 W.heap.size 5 v1 (Lib.strCells key) ∧ W.heap.size ≤ W5.heap.size) ?_ ?_
    · have hkW : Keeps (fun k => k = b1) W (w2.setCell ⟨b1, 8, none⟩ v1) := (Hk1.out.weak (T := fun k => k = b1) (fun k _ h => by cases h)).trans (keeps_set _ _ _ _)
      refine ⟨HW.out.trans (hkW.below HW.out.size (fun k hk => by omega)), hkW.heap Hz.out (by omega), ?_, ?_, hkW.size⟩
      · have h1 := heap_set (Hk1.out.heap Hs.out (by intro h; cases h)) 8 v1
        simp only [stCells, u32s, List.map, List.cons_append, List.nil_append, List.setIfInBounds_toArray, List.set] at h1
        exact h1
      · have h1 := Hseg1.out
        rw [List.nil_append] at h1
        exact h1.kept (S := fun k => k = b1) (keeps_set _ _ _ _) (fun k hk => by have := (h1.lt k hk).1; omega)
    rintro W5 ⟨hW5, hz5', hs5', hg5, hge5⟩
    clear q8 z8 r8 y8 Hseg1 Hk1 Hs Hz HW
    have hsz64 : ((64 - key.size : Nat) : Int) = 64 - (key.size : Int) := by omega
    obtain ⟨v2, w3, hr2, hseg2, hk2, hown2⟩ := run_append_seg_zeros (P := Try.prog) W5 W.heap.size 44 3 44 5 i5 (.int .u8 0) .i64 .i64 Try.underlying44 Try.underlying3 hi5 hz5 hs5 rfl rfl v1 _ hg5 (64 - key.size) (by omega) (by rw [Lib.strCells_length]; simp [maxLen]; omega) (by rw [hb5, Lib.strCells_length]; omega) hge5
    rw [hsz64] at hr2
    rw [pad_cells key h0] at hseg2
    have hv1b : ∀ k, some k = v1.ownBlock → ¬ (k < W.heap.size) := fun k hk => by have := (hg5.lt k hk.symm).1; omega
    have q8 : W5.cell? ⟨b1, 8, none⟩ = some v1 := by rw [cell_of hs5']; rfl
    have Hr2 := Lib.hid hr2
    clear hr2
    obtain ⟨a2, cap2, hv2, -, -, -⟩ := hseg2.form
    have b1k := hk2.heap hs5' (fun h => hv1b _ h hbW)
    have b0k := hk2.heap hz5' (fun h => hv1b _ h (by omega))
    have r8 : w3.cell? ⟨b1, 8, none⟩ = some v1 := by rw [cell_of b1k]; rfl
    have y8 := frozen_of b1k 8
    have hW3 : Below w.heap.size w w3 := hW5.trans (hk2.below hW5.size (fun k hk => by have := hv1b k hk; omega))
    generalize (n8s (padKey key.data.toList)).length = l2 at hv2
    subst hv2
    have Hs5 := Lib.hid hs5'
    have Hseg2 := Lib.hid hseg2
    have B1k := Lib.hid b1k
    have B0k := Lib.hid b0k
    have HW3 := Lib.hid hW3
    clear hs5' hz5' hg5 hseg2 b1k b0k hW3 hW5 hk2 hown2
    go_upto_region 6 with (at_builtin; refine Lib.wpList_append_run _ rfl (.tmp 25) (.tmp 28) 44 3 rfl _ _ rfl rfl _ _ Hr2.out ?_)
    refine wp_gen (fun W6 => Below w.heap.size w W6 ∧ W6.heap[b0]? = some (.cells z 67 (0, 0)) ∧ W6.heap[b1]? = some (.cells (stCells [e0, e1, e2, e3, e4, e5, e6, e7] (.slice a2 l2 cap2) 0).toArray 67 (0, 0)) ∧ Seg W6 W.heap.size 5 (.slice a2 l2 cap2) (n8s (padKey key.data.toList))) ?_ ?_
    · have hkW : Keeps (fun k => k = b1) w3 (w3.setCell ⟨b1, 8, none⟩ (.slice a2 l2 cap2)) := keeps_set _ _ _ _
      refine ⟨HW3.out.trans (hkW.below HW3.out.size (fun k hk => by omega)), hkW.heap B0k.out (by omega), ?_, ?_⟩
      · have h1 := heap_set B1k.out 8 (.slice a2 l2 cap2)
        simp only [stCells, u32s, List.map, List.cons_append, List.nil_append, List.setIfInBounds_toArray, List.set] at h1
        exact h1
      · exact Hseg2.out.kept hkW (fun k hk => by have := (Hseg2.out.lt k hk).1; omega)
    rintro W6 ⟨hW6, hz6, hs6, hg6⟩
    clear q8 r8 y8 Hr2 B1k B0k HW3 Hs5 Hseg2
    have q0 : W6.cell? ⟨b1, 0, none⟩ = some (.int .u32 (n32 e0)) := by rw [cell_of hs6]; rfl
    have q1 : W6.cell? ⟨b1, 1, none⟩ = some (.int .u32 (n32 e1)) := by rw [cell_of hs6]; rfl
    have q2 : W6.cell? ⟨b1, 2, none⟩ = some (.int .u32 (n32 e2)) := by rw [cell_of hs6]; rfl
    have q3 : W6.cell? ⟨b1, 3, none⟩ = some (.int .u32 (n32 e3)) := by rw [cell_of hs6]; rfl
    have q4 : W6.cell? ⟨b1, 4, none⟩ = some (.int .u32 (n32 e4)) := by rw [cell_of hs6]; rfl
    have q5 : W6.cell? ⟨b1, 5, none⟩ = some (.int .u32 (n32 e5)) := by rw [cell_of hs6]; rfl
    have q6 : W6.cell? ⟨b1, 6, none⟩ = some (.int .u32 (n32 e6)) := by rw [cell_of hs6]; rfl
    have q7 : W6.cell? ⟨b1, 7, none⟩ = some (.int .u32 (n32 e7)) := by rw [cell_of hs6]; rfl
    have q8 : W6.cell? ⟨b1, 8, none⟩ = some (.slice a2 l2 cap2) := by rw [cell_of hs6]; rfl
    have q9 : W6.cell? ⟨b1, 9, none⟩ = some (.int .u64 0) := by rw [cell_of hs6]; rfl
    have Hs6 := Lib.hid hs6
    clear hs6
    go_wp2_with (refine wpList_store_row rfl 67 _ _ rfl b0 #[.int .u32 (n32 e0), .int .u32 (n32 e1), .int .u32 (n32 e2), .int .u32 (n32 e3), .int .u32 (n32 e4), .int .u32 (n32 e5), .int .u32 (n32 e6), .int .u32 (n32 e7), (.slice a2 l2 cap2), .int .u64 0] rfl rfl 67 _ hz6 (by kernel_rfl) hzs (by simp [Value.oneCell']) ?_)
    (try simp only [Exit.inBlock, Exit.then])
    refine bodyPost_ret (results_cell_row rfl _ _ b0 67 #[.int .u32 (n32 e0), .int .u32 (n32 e1), .int .u32 (n32 e2), .int .u32 (n32 e3), .int .u32 (n32 e4), .int .u32 (n32 e5), .int .u32 (n32 e6), .int .u32 (n32 e7), (.slice a2 l2 cap2), .int .u64 0] (0, 0) _ rfl (setRow_heap _ _ _ _ _ _ hz6) Try.underlying67 rfl (by kernel_rfl)) rfl ?_
    refine ⟨(.slice a2 l2 cap2), ?_, ((hg6.kept (S := fun k => k = b0) (keeps_setRow _ _ _) (fun k hk => by have := (hg6.lt k hk).1; omega)).mono hWsz), below_setRow hW6 hb0w _⟩
    show _ = Ending.returned (.agg (stCells (chain0 key.data.toList.length) (.slice a2 l2 cap2) 0).toArray)
    rw [show key.data.toList.length = key.size from by simp, ← Hc.out]
    rfl
end

/-! ### StSum -/
section
open Go.RowKit

theorem bytesAt_seg {w : World} {base : Nat} {a : Option Addr} {n cap : Nat} {l : List UInt8} (h : Seg w base 5 (.slice a n cap) (n8s l)) : BytesAt w a l := by
  intro j hj
  obtain ⟨a', cap', he, -, -, hx⟩ := h.form
  obtain ⟨g', off', ha, hc⟩ := hx j (.int .u8 (n8 (at8 l j))) (by simp [n8s, at8, List.getElem?_eq_getElem hj])
  injection he with he
  exact ⟨g', off', he.trans ha, hc⟩
theorem run_convert_seg {w : World} {base : Nat} {v : Value} {l : List UInt8} (h : Seg w base 5 v (n8s l)) : (convert 44 9 v).run Try.prog w = .ok (.string (S8 l)) w := by
  rcases h with ⟨rfl, hl⟩ | ⟨g, off, cap, cur, rfl, hb, hg, hc, hs, hm, hx⟩
  · obtain rfl : l = [] := by simpa [n8s] using hl
    rw [run_convert_bytes_string w _ _ 5 none 0 0 Try.underlying44 Try.underlying5 Try.underlying9]
    kernel_rfl
  · have h1 := run_convert_bytes_back (P := Try.prog) w 44 9 5 ⟨g, off, none⟩ cap l Try.underlying44 Try.underlying5 Try.underlying9 (fun j hj => by
      rw [addr_add, cell_of hg, hx j (by simpa [n8s] using hj)]
      simp [n8s, n8, List.getElem?_eq_getElem hj])
    rw [n8s_length]
    exact h1

theorem bytesOf_step (l : List UInt32) (i : Nat) (hi : i < l.length) : bytesOf (l.take (i + 1)) = bytesOf (l.take i) ++ bytes4 (at32 l i) := by
  unfold bytesOf at32
  rw [List.take_add_one, List.flatMap_append, List.getD_eq_getElem?_getD, List.getElem?_eq_getElem hi]
  simp

theorem length_bytesOf (l : List UInt32) : (bytesOf l).length = 4 * l.length := by
  unfold bytesOf
  induction l with
  | nil => rfl
  | cons a l ih => rw [List.flatMap_cons, List.length_append, ih, List.length_cons]; simp [bytes4]; omega

set_option maxRecDepth 100000 in
set_option maxHeartbeats 2000000 in
theorem sum_any (base : Nat) (c : List UInt32) (v : Value) (rest : List UInt8) (n : Nat) (w : World) (hc : c.length = 8) (hseg : Seg w base 5 v (n8s rest)) (hr : rest.length ≤ 64) (hn : n + rest.length ≤ 140737488355328) :
    Calls Try.prog 54 #[.agg (stCells c v n).toArray] w (Ret (.string (S8 (finish ⟨c, rest, n⟩))) w) := by
  obtain ⟨e0, e1, e2, e3, e4, e5, e6, e7, rfl⟩ := list8 hc
  clear hc
  obtain ⟨a, cap, rfl, hcap, hcm, -⟩ := hseg.form
  simp only [n8s_length] at hcap hseg ⊢
  have i0 : (Try.prog.info? 5).map (fun i => (i.zero, i.size, i.bytes)) = some (some (.int .u8 0), 1, 1) := by kernel_rfl
  obtain ⟨i5, hi5, hz5, hs5, hb5⟩ := info_parts i0
  have hmk : ∀ w, (Instr.makeSlice 44 (.int .i64 0) (.int .i64 32)).run Try.prog w = .ok (.slice (some ⟨w.heap.size, 0, none⟩) 0 32) (w.alloc (.cells [Value.int .u8 0, Value.int .u8 0, Value.int .u8 0, Value.int .u8 0, Value.int .u8 0, Value.int .u8 0, Value.int .u8 0, Value.int .u8 0, Value.int .u8 0, Value.int .u8 0, Value.int .u8 0, Value.int .u8 0, Value.int .u8 0, Value.int .u8 0, Value.int .u8 0, Value.int .u8 0, Value.int .u8 0, Value.int .u8 0, Value.int .u8 0, Value.int .u8 0, Value.int .u8 0, Value.int .u8 0, Value.int .u8 0, Value.int .u8 0, Value.int .u8 0, Value.int .u8 0, Value.int .u8 0, Value.int .u8 0, Value.int .u8 0, Value.int .u8 0, Value.int .u8 0, Value.int .u8 0].toArray 5)) := fun _ => by kernel_rfl
  have HS := Lib.hid hseg
  generalize hR : S8 (finish ⟨[e0, e1, e2, e3, e4, e5, e6, e7], rest, n⟩) = R
  have HR := Lib.hid hR
  clear hseg i0 hR
  simp only [stCells, u32s, List.map, List.cons_append, List.nil_append]
  go_enter Try.func54, Try.ntmps54
  go_upto_region 2 with (fail)
  clear hmk
  obtain ⟨b1, hb1⟩ : ∃ b, b = w.heap.size := ⟨_, rfl⟩
  refine wp_gen (fun W => Below w.heap.size w W ∧ W.heap[b1]? = some (.cells (stCells [e0, e1, e2, e3, e4, e5, e6, e7] (.slice a rest.length cap) n).toArray 67 (0, 0)) ∧ Seg W base 5 (.slice a rest.length cap) (n8s rest) ∧ Seg W w.heap.size 5 (.slice (some ⟨b1 + 1, 0, none⟩) 0 32) (n8s (bytesOf []))) ?_ ?_
  · have hB := (((Below.refl w.heap.size w).alloc (Nat.le_refl _) (Obj.cells (stCells [e0, e1, e2, e3, e4, e5, e6, e7] (.slice a rest.length cap) n).toArray 67 (0, 0))).alloc (by simp) (Obj.cells [Value.int .u8 0, Value.int .u8 0, Value.int .u8 0, Value.int .u8 0, Value.int .u8 0, Value.int .u8 0, Value.int .u8 0, Value.int .u8 0, Value.int .u8 0, Value.int .u8 0, Value.int .u8 0, Value.int .u8 0, Value.int .u8 0, Value.int .u8 0, Value.int .u8 0, Value.int .u8 0, Value.int .u8 0, Value.int .u8 0, Value.int .u8 0, Value.int .u8 0, Value.int .u8 0, Value.int .u8 0, Value.int .u8 0, Value.int .u8 0, Value.int .u8 0, Value.int .u8 0, Value.int .u8 0, Value.int .u8 0, Value.int .u8 0, Value.int .u8 0, Value.int .u8 0, Value.int .u8 0].toArray 5))
    refine ⟨hB, ?_, HS.out.below hB, ?_⟩
    · rw [hb1]
      exact heap_old (heap_new w _) _
    · rw [hb1]
      have h1 := heap_new (w.alloc (Obj.cells (stCells [e0, e1, e2, e3, e4, e5, e6, e7] (.slice a rest.length cap) n).toArray 67 (0, 0))) (Obj.cells [Value.int .u8 0, Value.int .u8 0, Value.int .u8 0, Value.int .u8 0, Value.int .u8 0, Value.int .u8 0, Value.int .u8 0, Value.int .u8 0, Value.int .u8 0, Value.int .u8 0, Value.int .u8 0, Value.int .u8 0, Value.int .u8 0, Value.int .u8 0, Value.int .u8 0, Value.int .u8 0, Value.int .u8 0, Value.int .u8 0, Value.int .u8 0, Value.int .u8 0, Value.int .u8 0, Value.int .u8 0, Value.int .u8 0, Value.int .u8 0, Value.int .u8 0, Value.int .u8 0, Value.int .u8 0, Value.int .u8 0, Value.int .u8 0, Value.int .u8 0, Value.int .u8 0, Value.int .u8 0].toArray 5)
      rw [World.size_alloc] at h1
      exact .inr ⟨w.heap.size + 1, 0, 32, _, rfl, by omega, h1, by decide, by decide, by decide, fun j hj => by cases hj⟩
  rintro W ⟨hW, hs, hg, ho⟩
  rw [← hb1]
  clear hb1 HS
  have q0 : ∀ x : Ext W.drew, x.v.cell? ⟨b1, 0, none⟩ = some (.int .u32 (n32 e0)) := fun x => (x.cell _ _ (lt_of_block hs)).trans (by show W.cell? _ = _; rw [cell_of hs]; rfl)
  have q1 : ∀ x : Ext W.drew, x.v.cell? ⟨b1, 1, none⟩ = some (.int .u32 (n32 e1)) := fun x => (x.cell _ _ (lt_of_block hs)).trans (by show W.cell? _ = _; rw [cell_of hs]; rfl)
  have q2 : ∀ x : Ext W.drew, x.v.cell? ⟨b1, 2, none⟩ = some (.int .u32 (n32 e2)) := fun x => (x.cell _ _ (lt_of_block hs)).trans (by show W.cell? _ = _; rw [cell_of hs]; rfl)
  have q3 : ∀ x : Ext W.drew, x.v.cell? ⟨b1, 3, none⟩ = some (.int .u32 (n32 e3)) := fun x => (x.cell _ _ (lt_of_block hs)).trans (by show W.cell? _ = _; rw [cell_of hs]; rfl)
  have q4 : ∀ x : Ext W.drew, x.v.cell? ⟨b1, 4, none⟩ = some (.int .u32 (n32 e4)) := fun x => (x.cell _ _ (lt_of_block hs)).trans (by show W.cell? _ = _; rw [cell_of hs]; rfl)
  have q5 : ∀ x : Ext W.drew, x.v.cell? ⟨b1, 5, none⟩ = some (.int .u32 (n32 e5)) := fun x => (x.cell _ _ (lt_of_block hs)).trans (by show W.cell? _ = _; rw [cell_of hs]; rfl)
  have q6 : ∀ x : Ext W.drew, x.v.cell? ⟨b1, 6, none⟩ = some (.int .u32 (n32 e6)) := fun x => (x.cell _ _ (lt_of_block hs)).trans (by show W.cell? _ = _; rw [cell_of hs]; rfl)
  have q7 : ∀ x : Ext W.drew, x.v.cell? ⟨b1, 7, none⟩ = some (.int .u32 (n32 e7)) := fun x => (x.cell _ _ (lt_of_block hs)).trans (by show W.cell? _ = _; rw [cell_of hs]; rfl)
  have q8 : ∀ x : Ext W.drew, x.v.cell? ⟨b1, 8, none⟩ = some (.slice a rest.length cap) := fun x => (x.cell _ _ (lt_of_block hs)).trans (by show W.cell? _ = _; rw [cell_of hs]; rfl)
  have q9 : ∀ x : Ext W.drew, x.v.cell? ⟨b1, 9, none⟩ = some (.int .u64 (n : Int)) := fun x => (x.cell _ _ (lt_of_block hs)).trans (by show W.cell? _ = _; rw [cell_of hs]; rfl)
  obtain ⟨ws, hws⟩ : ∃ ws, ws = wordsOf rest := ⟨_, rfl⟩
  have hwl : ws.length = 16 := by rw [hws]; exact length_wordsOf _
  obtain ⟨c2, hc2⟩ : ∃ c2, c2 = compress [e0, e1, e2, e3, e4, e5, e6, e7] ws (n + rest.length) true := ⟨_, rfl⟩
  have hc2l : c2.length = 8 := by rw [hc2]; exact length_compress _ _ _ _
  have hR2 : R = S8 (bytesOf c2) := by
    rw [← HR.out, hc2, hws]
    rfl
  have hB : ∀ x : Ext W.drew, Calls Try.prog 63 #[.slice a rest.length cap] x.v (Ret (uAgg ws) x.v) := by
    intro x
    have h1 := words_any a cap rest x.v hr (bytesAt_seg (hg.below (below_undrew x.below)))
    rw [← hws] at h1
    exact h1
  have hC : ∀ w, Calls Try.prog 62 #[.agg #[.int .u32 (n32 e0), .int .u32 (n32 e1), .int .u32 (n32 e2), .int .u32 (n32 e3), .int .u32 (n32 e4), .int .u32 (n32 e5), .int .u32 (n32 e6), .int .u32 (n32 e7)], uAgg ws, .int .u64 ((n : Int) + (rest.length : Int)), .bool true] w (Ret (.agg (u32s c2).toArray) w) := by
    intro w
    have h1 := compress_any [e0, e1, e2, e3, e4, e5, e6, e7] ws (n + rest.length) true w rfl hwl (by omega)
    rw [← hc2] at h1
    exact h1
  have a1 : IntKind.u64.wrap (rest.length : Int) = (rest.length : Int) := by simp [IntKind.wrap, IntKind.bits, IntKind.signed]; omega
  have a2 : IntKind.u64.wrap ((n : Int) + (rest.length : Int)) = (n : Int) + (rest.length : Int) := by simp [IntKind.wrap, IntKind.bits, IntKind.signed]; omega
  have HB := Lib.hid hB
  have HC := Lib.hid hC
  have HR2 := Lib.hid hR2
  have Hc2l := Lib.hid hc2l
  have HW := Lib.hid hW
  have Ho := Lib.hid ho
  clear hB hC hws hc2 hwl hg hs HR hR2 hc2l hW ho
  refine wp_region_ext 14 (by kernel_rfl) (by kernel_rfl) ?_
  iterate 4 (refine wpX_step (fun K hK => ?_); go_simp; refine hK _ ?_; clear hK K)
  refine wpX_step (fun K hK => ?_)
  go_simp
  refine ⟨_, fun x => HB.out x, hK _ ?_⟩
  clear hK K
  iterate 7 (refine wpX_step (fun K hK => ?_); go_simp; refine hK _ ?_; clear hK K)
  refine wpX_step (fun K hK => ?_)
  go_simp
  refine ⟨_, fun x => HC.out x.v, hK _ ?_⟩
  clear hK K
  refine wpX_step (fun K hK => ?_)
  go_simp
  refine hK _ ?_
  clear hK K
  refine wpX_nil ?_
  intro X
  have hV := HW.out.trans ((below_undrew X.below).mono HW.out.size)
  have hVo := Ho.out.below (below_undrew X.below)
  clear q0 q1 q2 q3 q4 q5 q6 q7 q8 q9 HB HC HW Ho a1 a2
  generalize X.v = V at hV hVo ⊢
  refine wpList_nil ?_
  go_wp2
  have hVo0 : Seg V w.heap.size 5 (.slice (some ⟨b1 + 1, 0, none⟩) 0 32) (n8s (bytesOf (c2.take 0))) := hVo
  clear hVo
  go_loopw [3, 20] (fun o k wr => ∃ i : Nat, i ≤ 8 ∧ k = .int .i64 i ∧ Seg wr w.heap.size 5 o (n8s (bytesOf (c2.take i))) ∧ Below w.heap.size w wr) (fun _ k _ => 8 - (intOf k).toNat)
  case atStart => exact ⟨0, by omega, rfl, hVo0, hV⟩
  case round =>
    obtain ⟨i, hi, rfl, hgo, hbl⟩ := hrel
    by_cases hli : i < 8
    · have hix := fun w => run_index_one (P := Try.prog) (cs := (u32s c2).toArray) Try.underlying64 (fun w => by kernel_rfl) (by kernel_rfl) i hli (.int .u32 (n32 (at32 c2 i))) (by simp [u32s, at32, List.getElem?_eq_getElem (show i < c2.length by rw [Hc2l.out]; exact hli)]) w
      have hlI : (i : Int) < 8 := by omega
      have d0 : n32 (at32 c2 i) % 256 = n8 (byteAt (at32 c2 i) 0) := by
        have h1 := byteAt_eq (at32 c2 i) 0
        simp [IntKind.wrap, IntKind.bits, IntKind.signed] at h1
        exact h1
      have d1 : n32 (at32 c2 i) / 256 % 256 = n8 (byteAt (at32 c2 i) 1) := by
        have h1 := byteAt_eq (at32 c2 i) 1
        simp [IntKind.wrap, IntKind.bits, IntKind.signed] at h1
        exact h1
      have d2 : n32 (at32 c2 i) / 65536 % 256 = n8 (byteAt (at32 c2 i) 2) := by
        have h1 := byteAt_eq (at32 c2 i) 2
        simp [IntKind.wrap, IntKind.bits, IntKind.signed] at h1
        exact h1
      have d3 : n32 (at32 c2 i) / 16777216 % 256 = n8 (byteAt (at32 c2 i) 3) := by
        have h1 := byteAt_eq (at32 c2 i) 3
        simp [IntKind.wrap, IntKind.bits, IntKind.signed] at h1
        exact h1
      have hlen4 : (n8s (bytesOf (c2.take i))).length = 4 * i := by rw [n8s_length, length_bytesOf, List.length_take, Hc2l.out, Nat.min_eq_left hi]
      have hbA := (Below.refl wr.heap.size wr).alloc (Nat.le_refl _) (.cells #[.int .u8 (n8 (byteAt (at32 c2 i) 0)), .int .u8 (n8 (byteAt (at32 c2 i) 1)), .int .u8 (n8 (byteAt (at32 c2 i) 2)), .int .u8 (n8 (byteAt (at32 c2 i) 3))] 5)
      obtain ⟨v4, w4, hr4, hg4, hk4, hown4⟩ := run_append_seg (P := Try.prog) (wr.alloc (.cells #[.int .u8 (n8 (byteAt (at32 c2 i) 0)), .int .u8 (n8 (byteAt (at32 c2 i) 1)), .int .u8 (n8 (byteAt (at32 c2 i) 2)), .int .u8 (n8 (byteAt (at32 c2 i) 3))] 5)) w.heap.size 44 44 44 5 i5 (.int .u8 0) Try.underlying44 hi5 hz5 hs5 rfl u3 _ (hgo.below hbA) (.slice (some ⟨wr.heap.size, 0, none⟩) 4 4) 4 (n8s (bytes4 (at32 c2 i)))
        (Src.ofSlice _ Try.underlying44 ⟨wr.heap.size, 0, none⟩ 4 4 (n8s (bytes4 (at32 c2 i))) rfl (news_of (heap_new wr _)) (by simp [n8s, bytes4, Value.oneCell'])) (by rw [hlen4]; simp [maxLen]; omega) (by rw [hlen4, hb5]; omega) (by have := hbl.size; simp; omega)
      have hk5 : Below w.heap.size w w4 := (hbl.alloc hbl.size _).trans (hk4.below (by have := hbl.size; simp; omega) (fun k hk => (hgo.lt k hk.symm).1))
      rw [n8s_append, ← bytesOf_step c2 i (by rw [Hc2l.out]; exact hli)] at hg4
      have Hr4 := Lib.hid hr4
      have Hg4 := Lib.hid hg4
      have Hk5 := Lib.hid hk5
      clear hgo hbl hr4 hg4 hk4 hown4 hk5 hlen4 hbA
      go_wp2_with (at_builtin; refine Lib.wpList_append_run _ rfl (.tmp 23) (.tmp 35) 44 44 rfl _ _ rfl rfl _ _ Hr4.out ?_)
      go_roundw
      case rel => exact ⟨i + 1, by omega, by go_num, Hg4.out, Hk5.out⟩
      case measure => simp [intOf]; omega
    · have hlI : ¬ (i : Int) < 8 := by omega
      have Hi : Hid (i = 8) := Lib.hid (by omega)
      rw [Hi.out, List.take_of_length_le (by rw [Hc2l.out]; omega)] at hgo
      have hcv := run_convert_seg hgo
      rw [← HR2.out] at hcv
      have Hbl := Lib.hid hbl
      clear hbl hgo
      go_wp2
      go_ret
      exact ⟨rfl, Hbl.out⟩
end

/-! ### Sums -/
section
open Go.RowKit

theorem feed_facts (k : Nat) : ∀ (c : List UInt32) (s : List UInt8) (n : Nat), s.length ≤ k → c.length = 8 → (feed c s n).rest.length ≤ 64 ∧ (feed c s n).count + (feed c s n).rest.length = n + s.length ∧ (feed c s n).chain.length = 8 := by
  induction k with
  | zero =>
    intro c s n h hc
    rw [feed, if_neg (by omega)]
    exact ⟨by show s.length ≤ 64; omega, rfl, hc⟩
  | succ k ih =>
    intro c s n h hc
    rw [feed]
    by_cases hs : 64 < s.length
    · rw [if_pos hs]
      have h1 := ih (compress c (wordsOf (s.take 64)) (n + 64) false) (s.drop 64) (n + 64) (by rw [List.length_drop]; omega) (length_compress _ _ _ _)
      rw [List.length_drop] at h1
      exact ⟨h1.1, by rw [h1.2.1]; omega, h1.2.2⟩
    · rw [if_neg hs]
      exact ⟨by show s.length ≤ 64; omega, rfl, hc⟩

theorem length_padKey (key : List UInt8) (h : key.length ≤ 64) : (padKey key).length ≤ 64 := by
  unfold padKey
  split
  · simp
  · simp; omega

/-- start, its value written out. -/
theorem start_lit (key : ByteArray) (w : World) (hk : key.size ≤ 32) :
    Calls Try.prog 52 #[.string key] w (fun e w' => ∃ e0 e1 e2 e3 e4 e5 e6 e7 a cap, e = .returned (.agg #[.int .u32 (n32 e0), .int .u32 (n32 e1), .int .u32 (n32 e2), .int .u32 (n32 e3), .int .u32 (n32 e4), .int .u32 (n32 e5), .int .u32 (n32 e6), .int .u32 (n32 e7), .slice a (padKey key.data.toList).length cap, .int .u64 0]) ∧
      chain0 key.size = [e0, e1, e2, e3, e4, e5, e6, e7] ∧ Seg w' w.heap.size 5 (.slice a (padKey key.data.toList).length cap) (n8s (padKey key.data.toList)) ∧ Below w.heap.size w w') := by
  refine (start_any key w hk).mono ?_
  rintro e w' ⟨v, he, hseg, hb⟩
  obtain ⟨e0, e1, e2, e3, e4, e5, e6, e7, hc⟩ := list8 (length_chain0 key.size)
  obtain ⟨a, cap, rfl, -, -, -⟩ := hseg.form
  have hl : (n8s (start0 key.data.toList).rest).length = (padKey key.data.toList).length := n8s_length _
  rw [hl] at he hseg
  refine ⟨e0, e1, e2, e3, e4, e5, e6, e7, a, cap, ?_, hc, hseg, hb⟩
  rw [he]
  show Ending.returned (.agg (stCells (chain0 key.data.toList.length) _ 0).toArray) = _
  rw [show key.data.toList.length = key.size from by simp, hc]
  rfl

set_option maxRecDepth 100000 in
set_option maxHeartbeats 2000000 in
theorem dsum_any (s : ByteArray) (w : World) (hs : s.size ≤ 140737488351232) :
    Calls Try.prog 32 #[.string s] w (Ret (.string (S8 (dsum s.data.toList))) w) := by
  show Calls _ _ _ _ (Ret (.string (S8 (keyed (⟨#[]⟩ : ByteArray).data.toList s.data.toList))) w)
  generalize hR : S8 (keyed (⟨#[]⟩ : ByteArray).data.toList s.data.toList) = R
  have HR := Lib.hid hR
  clear hR
  have hpad : (padKey (⟨#[]⟩ : ByteArray).data.toList).length ≤ 64 := length_padKey _ (by simp <;> omega)
  go_enter Try.func32, Try.ntmps32
  go_upto_region 2 with (go_at_call 52; (with_reducible refine (start_lit (⟨#[]⟩ : ByteArray) _ (by decide)).mono ?_); rintro e w1 ⟨e0, e1, e2, e3, e4, e5, e6, e7, a, cap, rfl, hc, hseg, hb⟩)
  generalize hp : padKey (⟨#[]⟩ : ByteArray).data.toList = pk at hseg hpad ⊢
  refine wp_gen (fun W => StAt W w.heap.size w1.heap.size 67 [] ⟨[e0, e1, e2, e3, e4, e5, e6, e7], pk, 0⟩ (.slice a pk.length cap) ∧ Below w.heap.size w W) ?_ ?_
  · have hn : Below w1.heap.size w1 (w1.alloc (.cells #[.int .u32 (n32 e0), .int .u32 (n32 e1), .int .u32 (n32 e2), .int .u32 (n32 e3), .int .u32 (n32 e4), .int .u32 (n32 e5), .int .u32 (n32 e6), .int .u32 (n32 e7), .slice a pk.length cap, .int .u64 0] 67)) := (Below.refl _ _).alloc (Nat.le_refl _) _
    exact ⟨⟨heap_new w1 _, hseg.below hn, fun g hg => by have := (hseg.lt g hg).2; omega, rfl⟩, below_then hb hb.size hn⟩
  rintro W ⟨hst, hW⟩
  have hsz : w.heap.size ≤ w1.heap.size := hb.size
  obtain ⟨b, hbb⟩ : ∃ b, b = w1.heap.size := ⟨_, rfl⟩
  rw [← hbb] at hst hsz ⊢
  have Hc := Lib.hid hc
  have Hp := Lib.hid hp
  have Hst := Lib.hid hst
  have HW := Lib.hid hW
  clear hb hbb hseg hc hp hst hW
  have hWs : w.heap.size ≤ W.heap.size := HW.out.size
  go_upto_region 3 with (go_at_call 53; (with_reducible refine (take_any w.heap.size b 67 [] _ _ s W Hst.out hWs (by show 0 + pk.length + s.size ≤ _; omega)).mono ?_); rintro e w2 ⟨rfl, v2, hst2, hk2, -⟩)
  obtain ⟨st2, hst2e⟩ : ∃ st, st = take1 ⟨[e0, e1, e2, e3, e4, e5, e6, e7], pk, 0⟩ s.data.toList := ⟨_, rfl⟩
  have hf := feed_facts (pk ++ s.data.toList).length [e0, e1, e2, e3, e4, e5, e6, e7] (pk ++ s.data.toList) 0 (Nat.le_refl _) rfl
  have hf' : st2.rest.length ≤ 64 ∧ st2.count + st2.rest.length = 0 + (pk ++ s.data.toList).length ∧ st2.chain.length = 8 := by rw [hst2e]; exact hf
  rw [← hst2e] at hst2
  have hR2 : R = S8 (finish ⟨st2.chain, st2.rest, st2.count⟩) := by
    rw [← HR.out, hst2e, ← Hc.out, ← Hp.out]
    rfl
  have hW2 : Below w.heap.size w w2 := HW.out.trans (hk2.below hWs (fun k hk => by
    rcases hk with rfl | hk
    · exact hsz
    · exact (Hst.out.seg.lt k hk.symm).1))
  have hblk := hst2.blk
  rw [List.append_nil] at hblk
  have hsz10 : (Try.prog.info? 67).map (·.size) = some (stCells st2.chain v2 st2.count).toArray.size := by
    rw [show (stCells st2.chain v2 st2.count).toArray.size = 10 from by simp [stCells, u32s, hf'.2.2]]
    kernel_rfl
  have hbound : st2.count + st2.rest.length ≤ 140737488355328 := by rw [hf'.2.1, List.length_append]; simp; omega
  have Hblk := Lib.hid hblk
  have Hst2 := Lib.hid hst2
  have Hf := Lib.hid hf'
  have HR2 := Lib.hid hR2
  have HW2 := Lib.hid hW2
  clear hf hf' hst2e hst2 hk2 hR2 hW2 hblk HR Hc Hp Hst HW
  go_wp2_with (first | (refine wpList_load_row rfl 67 _ rfl b rfl 67 (stCells st2.chain v2 st2.count).toArray _ _ Hblk.out Try.underlying67 rfl hsz10 ?_) | (go_at_call 54; (with_reducible refine (sum_any w.heap.size st2.chain v2 st2.rest st2.count _ Hf.out.2.2 Hst2.out.seg Hf.out.1 hbound).mono ?_); rintro e w3 ⟨rfl, hb3⟩))
  go_ret
  exact ⟨by rw [HR2.out]; rfl, below_then HW2.out HW2.out.size hb3⟩
end

/-! ### SumsR -/
section
open Go.RowKit

end

end Go.Proofs.Ytnfcohpljgmaiaa
