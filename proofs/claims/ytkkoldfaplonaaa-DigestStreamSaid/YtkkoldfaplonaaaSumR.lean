/- The contract of the reference's sum: the digest of blocks that follow one another. -/
import Derived.Test.YtkkoldfaplonaaaCompR0
import Derived.Test.YtkkoldfaplonaaaCompR1
import Derived.Test.YtkkoldfaplonaaaWords
import Derived.Laws.IdiomStrings
import Derived.Lib.Strings
namespace Go.Proofs.Ytkkoldfaplonaaa
open Go.RowKit

/-- A list of bytes as a string. -/
def S8 (l : List UInt8) : ByteArray := ⟨l.toArray⟩

theorem chain_ref (k : Nat) (hk : k ≤ 64) : n32 (0x6a09e667 ^^^ 16842784 ^^^ UInt32.ofNat (k * 256)) = n32 (0x6a09e667 ^^^ (16842784 + 256 * UInt32.ofNat k)) := by
  have h : ∀ k, k < 65 → (0x6a09e667 ^^^ 16842784 ^^^ UInt32.ofNat (k * 256) : UInt32) = 0x6a09e667 ^^^ (16842784 + 256 * UInt32.ofNat k) := by decide +kernel
  rw [h k (by omega)]
theorem length_chain0 (k : Nat) : (chain0 k).length = 8 := rfl

def n8s (l : List UInt8) : List Value := l.map fun x => .int .u8 (n8 x)
theorem cell_u8 {w : World} {b : Nat} {l : List UInt8} {t : TypeId} {f : Nat × Nat} (h : w.heap[b]? = some (.cells (n8s l).toArray t f)) (i : Nat) (hi : i < l.length) :
    w.cell? ⟨b, i, none⟩ = some (.int .u8 (n8 (at8 l i))) := by
  rw [cell_of h]
  unfold at8
  simp [n8s, List.getElem?_eq_getElem hi, List.getD_eq_getElem?_getD]
theorem n8s_set (v : List UInt8) (j : Nat) (x : UInt8) : (n8s v).toArray.setIfInBounds j (.int .u8 (n8 x)) = (n8s (v.set j x)).toArray := by
  simp [n8s, List.map_set]

theorem byteAt_eq (x : UInt32) (j : Nat) : IntKind.u8.wrap (n32 x / 2 ^ (8 * j)) = n8 (byteAt x j) := by
  unfold n8 n32 byteAt
  rw [UInt8.toNat_ofNat']
  have : ((x.toNat : Int) / 2 ^ (8 * j)) = ((x.toNat / 2 ^ (8 * j) : Nat) : Int) := by simp
  rw [this]
  simp [IntKind.wrap, IntKind.bits, IntKind.signed]

/-- The bytes of the digest behind the first i stores. -/
def outN (c : List UInt32) : Nat → List UInt8
  | 0 => List.replicate 32 0
  | i + 1 => (outN c i).set i (byteAt (at32 c (i / 4)) (i % 4))
theorem length_outN (c : List UInt32) (i : Nat) : (outN c i).length = 32 := by
  induction i with
  | zero => rfl
  | succ i ih => simp [outN, ih]
theorem outN_all (e0 e1 e2 e3 e4 e5 e6 e7 : UInt32) : outN [e0, e1, e2, e3, e4, e5, e6, e7] 32 = bytesOf [e0, e1, e2, e3, e4, e5, e6, e7] := by kernel_rfl

theorem feed_step (c : List UInt32) (s : List UInt8) (at_ : Nat) (h : at_ + 64 < s.length) :
    feed c (s.drop at_) at_ = feed (compress c (wordsOf ((s.drop at_).take 64)) (at_ + 64) false) (s.drop (at_ + 64)) (at_ + 64) := by
  rw [feed, if_pos (by simp; omega), List.drop_drop]
theorem feed_done (c : List UInt32) (s : List UInt8) (at_ : Nat) (h : s.length ≤ at_ + 64) : feed c (s.drop at_) at_ = ⟨c, s.drop at_, at_⟩ := by
  rw [feed, if_neg (by simp; omega)]

set_option maxRecDepth 100000 in
set_option maxHeartbeats 2000000 in
theorem sumr_any (k : Nat) (s : ByteArray) (w : World) (hk : k ≤ 64) (hs : s.size ≤ 140737488355328) :
    Calls Try.prog 29 #[.int .i64 k, .string s] w (Ret (.string (S8 (finish (feed (chain0 k) s.data.toList 0)))) w) := by
  have hini := fun w => initialr_any w
  simp only [uAgg, u32s, iv, List.map] at hini
  have Hini := Lib.hid hini
  clear hini
  have hx0 : bits .xor .u32 (bits .xor .u32 (n32 0x6a09e667) 16842784) ((k : Int) * 256) = n32 (0x6a09e667 ^^^ (16842784 + 256 * UInt32.ofNat k)) := by
    have h1 : (16842784 : Int) = n32 16842784 := by decide +kernel
    have h2 : (k : Int) * 256 = n32 (UInt32.ofNat (k * 256)) := by
      unfold n32
      rw [UInt32.toNat_ofNat']
      omega
    rw [h1, h2, u32_xor_n, u32_xor_n, chain_ref k hk]
  generalize hR : S8 (finish (feed (chain0 k) s.data.toList 0)) = R
  have HR := Lib.hid hR
  clear hR
  go_enter Try.func29, Try.ntmps29
  go_wp2_with (go_at_call 35; (with_reducible refine (Hini.out _).mono ?_); rintro e w1 ⟨rfl, hb⟩)
  have hb5 : w.heap.size ≤ w1.heap.size := hb.size
  refine wp_gen (fun W => Below w.heap.size w W ∧ W.heap[w1.heap.size]? = some (.cells (u32s (chain0 k)).toArray 31 (0, 0))) ?_ ?_
  · exact ⟨hb.alloc hb.size _, heap_new _ _⟩
  rintro W ⟨hW, hWb⟩
  obtain ⟨b5, hb5'⟩ : ∃ b5, b5 = w1.heap.size := ⟨_, rfl⟩
  rw [← hb5'] at hWb hb5 ⊢
  clear hb5' hb hx0 Hini
  obtain ⟨bs, hbs⟩ : ∃ bs, bs = s.data.toList := ⟨_, rfl⟩
  have hsz : s.size = bs.length := by rw [hbs]; simp
  obtain ⟨c0, hc0⟩ : ∃ c0, c0 = chain0 k := ⟨_, rfl⟩
  rw [← hc0] at hWb
  have hcl0 : c0.length = 8 := by rw [hc0]; rfl
  have Hbs := Lib.hid hbs
  have Hsz := Lib.hid hsz
  have Hc0 := Lib.hid hc0
  have Hcl0 := Lib.hid hcl0
  clear hbs hsz hc0 hcl0
  go_loopw [6] (fun a wr => ∃ (n : Nat) (c : List UInt32), n ≤ s.size ∧ a = .int .i64 n ∧ c.length = 8 ∧ feed c0 bs 0 = feed c (bs.drop n) n ∧ Below w.heap.size w wr ∧ wr.heap[b5]? = some (.cells (u32s c).toArray 31 (0, 0))) (fun a _ => s.size - (intOf a).toNat)
  case atStart => exact ⟨0, c0, by omega, rfl, Hcl0.out, by simp, hW, hWb⟩
  case round =>
    obtain ⟨n, c, hn, rfl, hcl, hfeed, hbl, hcb⟩ := hrel
    obtain ⟨e0, e1, e2, e3, e4, e5, e6, e7, rfl⟩ := list8 hcl
    have Hfeed := Lib.hid hfeed
    clear hfeed hcl
    by_cases hlt : 64 < s.size - n
    · have hltI : (64 : Int) < (s.size : Int) - (n : Int) := by omega
      have q0 : ∀ x : Ext wr.drew, x.v.cell? ⟨b5, 0, none⟩ = some (.int .u32 (n32 e0)) := fun x => (x.cell _ _ (lt_of_block hcb)).trans (by show wr.cell? _ = _; rw [cell_of hcb]; rfl)
      have q1 : ∀ x : Ext wr.drew, x.v.cell? ⟨b5, 1, none⟩ = some (.int .u32 (n32 e1)) := fun x => (x.cell _ _ (lt_of_block hcb)).trans (by show wr.cell? _ = _; rw [cell_of hcb]; rfl)
      have q2 : ∀ x : Ext wr.drew, x.v.cell? ⟨b5, 2, none⟩ = some (.int .u32 (n32 e2)) := fun x => (x.cell _ _ (lt_of_block hcb)).trans (by show wr.cell? _ = _; rw [cell_of hcb]; rfl)
      have q3 : ∀ x : Ext wr.drew, x.v.cell? ⟨b5, 3, none⟩ = some (.int .u32 (n32 e3)) := fun x => (x.cell _ _ (lt_of_block hcb)).trans (by show wr.cell? _ = _; rw [cell_of hcb]; rfl)
      have q4 : ∀ x : Ext wr.drew, x.v.cell? ⟨b5, 4, none⟩ = some (.int .u32 (n32 e4)) := fun x => (x.cell _ _ (lt_of_block hcb)).trans (by show wr.cell? _ = _; rw [cell_of hcb]; rfl)
      have q5 : ∀ x : Ext wr.drew, x.v.cell? ⟨b5, 5, none⟩ = some (.int .u32 (n32 e5)) := fun x => (x.cell _ _ (lt_of_block hcb)).trans (by show wr.cell? _ = _; rw [cell_of hcb]; rfl)
      have q6 : ∀ x : Ext wr.drew, x.v.cell? ⟨b5, 6, none⟩ = some (.int .u32 (n32 e6)) := fun x => (x.cell _ _ (lt_of_block hcb)).trans (by show wr.cell? _ = _; rw [cell_of hcb]; rfl)
      have q7 : ∀ x : Ext wr.drew, x.v.cell? ⟨b5, 7, none⟩ = some (.int .u32 (n32 e7)) := fun x => (x.cell _ _ (lt_of_block hcb)).trans (by show wr.cell? _ = _; rw [cell_of hcb]; rfl)
      have Hbl := Lib.hid hbl
      have Hcb := Lib.hid hcb
      have a1 : IntKind.i64.wrap ((n : Int) + 64) = (n : Int) + 64 := IntWalk.i64_in _ (by omega)
      have a2 : (n : Int) ≤ (n : Int) + 64 := by omega
      have a3 : (n : Int) + 64 ≤ (s.size : Int) := by omega
      have a4 : ((n : Int) + 64).toNat = n + 64 := by omega
      have a5 : 0 ≤ (n : Int) + 64 := by omega
      have a6 : IntKind.u64.wrap ((n : Int) + 64) = (n : Int) + 64 := by simp [IntKind.wrap, IntKind.bits, IntKind.signed]; omega
      obtain ⟨ws, hws⟩ : ∃ ws, ws = wordsOf ((bs.drop n).take 64) := ⟨_, rfl⟩
      have hwl : ws.length = 16 := by rw [hws]; exact length_wordsOf _
      obtain ⟨c2, hc2⟩ : ∃ c2, c2 = compress [e0, e1, e2, e3, e4, e5, e6, e7] ws (n + 64) false := ⟨_, rfl⟩
      have hc2l : c2.length = 8 := by rw [hc2]; exact length_compress _ _ _ _
      have hB : ∀ w, Calls Try.prog 38 #[.string (s.extract n (n + 64))] w (Ret (uAgg ws) w) := by
        intro w
        have h1 := block_any (s.extract n (n + 64)) w (by rw [ByteArray.size_extract]; omega)
        rw [Lib.extract_data, ← Hbs.out, show n + 64 - n = 64 by omega, ← hws] at h1
        exact h1
      have hC : ∀ w, Calls Try.prog 19 #[.agg #[.int .u32 (n32 e0), .int .u32 (n32 e1), .int .u32 (n32 e2), .int .u32 (n32 e3), .int .u32 (n32 e4), .int .u32 (n32 e5), .int .u32 (n32 e6), .int .u32 (n32 e7)], uAgg ws, .int .u64 ((n : Int) + 64), .bool false] w (Ret (.agg (u32s c2).toArray) w) := by
        intro w
        have h1 := compressr_false [e0, e1, e2, e3, e4, e5, e6, e7] ws (n + 64) w rfl hwl (by omega)
        rw [← hc2] at h1
        exact h1
      have HB := Lib.hid hB
      have HC := Lib.hid hC
      have Hws := Lib.hid hws
      have Hc2 := Lib.hid hc2
      have Hc2l := Lib.hid hc2l
      clear hB hC hws hc2 hwl hc2l
      clear hbl hcb
      go_wp2
      refine wp_region_ext 11 (by kernel_rfl) (by kernel_rfl) ?_
      iterate 6 (refine wpX_step (fun K hK => ?_); go_simp; refine hK _ ?_; clear hK K)
      refine wpX_step (fun K hK => ?_)
      go_simp
      refine ⟨_, fun x => HB.out x.v, hK _ ?_⟩
      clear hK K
      iterate 3 (refine wpX_step (fun K hK => ?_); go_simp; refine hK _ ?_; clear hK K)
      refine wpX_step (fun K hK => ?_)
      go_simp
      refine ⟨_, fun x => HC.out x.v, hK _ ?_⟩
      clear hK K
      refine wpX_nil ?_
      intro X
      have hXb := (X.heap _ (lt_of_block Hcb.out)).trans Hcb.out
      have hXw := below_then Hbl.out Hbl.out.size (w2 := X.v) (below_undrew X.below)
      clear q0 q1 q2 q3 q4 q5 q6 q7 HB HC Hbl Hcb
      generalize X.v = V at hXb hXw ⊢
      have hs8 : (u32s c2).toArray.size = 8 := by simp [u32s, Hc2l.out]
      have hi8 : (Try.prog.info? 31).map (·.size) = some (u32s c2).toArray.size := by rw [hs8]; kernel_rfl
      have hone : (u32s c2).toArray.all (·.oneCell') = true := by simp [u32s, Value.oneCell']
      have HXw := Lib.hid hXw
      have Hs8 := Lib.hid hs8
      clear hXw hs8
      refine wpList_store_row rfl 31 _ _ rfl b5 (u32s c2).toArray rfl rfl 31 _ hXb hi8 Hs8.out.symm hone ?_
      go_wp2
      go_roundw
      case rel =>
        refine ⟨n + 64, c2, by omega, by go_num, Hc2l.out, ?_, below_setRow HXw.out hb5 _, setRow_heap _ _ _ _ _ _ hXb⟩
        rw [Hfeed.out, feed_step _ _ _ (by rw [← Hsz.out]; omega), ← Hws.out, ← Hc2.out]
      case measure => simp [intOf]; omega
    · have hltI : ¬ ((64 : Int) < (s.size : Int) - (n : Int)) := by omega
      have q0 : ∀ x : Ext wr.drew, x.v.cell? ⟨b5, 0, none⟩ = some (.int .u32 (n32 e0)) := fun x => (x.cell _ _ (lt_of_block hcb)).trans (by show wr.cell? _ = _; rw [cell_of hcb]; rfl)
      have q1 : ∀ x : Ext wr.drew, x.v.cell? ⟨b5, 1, none⟩ = some (.int .u32 (n32 e1)) := fun x => (x.cell _ _ (lt_of_block hcb)).trans (by show wr.cell? _ = _; rw [cell_of hcb]; rfl)
      have q2 : ∀ x : Ext wr.drew, x.v.cell? ⟨b5, 2, none⟩ = some (.int .u32 (n32 e2)) := fun x => (x.cell _ _ (lt_of_block hcb)).trans (by show wr.cell? _ = _; rw [cell_of hcb]; rfl)
      have q3 : ∀ x : Ext wr.drew, x.v.cell? ⟨b5, 3, none⟩ = some (.int .u32 (n32 e3)) := fun x => (x.cell _ _ (lt_of_block hcb)).trans (by show wr.cell? _ = _; rw [cell_of hcb]; rfl)
      have q4 : ∀ x : Ext wr.drew, x.v.cell? ⟨b5, 4, none⟩ = some (.int .u32 (n32 e4)) := fun x => (x.cell _ _ (lt_of_block hcb)).trans (by show wr.cell? _ = _; rw [cell_of hcb]; rfl)
      have q5 : ∀ x : Ext wr.drew, x.v.cell? ⟨b5, 5, none⟩ = some (.int .u32 (n32 e5)) := fun x => (x.cell _ _ (lt_of_block hcb)).trans (by show wr.cell? _ = _; rw [cell_of hcb]; rfl)
      have q6 : ∀ x : Ext wr.drew, x.v.cell? ⟨b5, 6, none⟩ = some (.int .u32 (n32 e6)) := fun x => (x.cell _ _ (lt_of_block hcb)).trans (by show wr.cell? _ = _; rw [cell_of hcb]; rfl)
      have q7 : ∀ x : Ext wr.drew, x.v.cell? ⟨b5, 7, none⟩ = some (.int .u32 (n32 e7)) := fun x => (x.cell _ _ (lt_of_block hcb)).trans (by show wr.cell? _ = _; rw [cell_of hcb]; rfl)
      have Hbl := Lib.hid hbl
      have Hcb := Lib.hid hcb
      have a3 : (n : Int) ≤ (s.size : Int) := by omega
      have a6 : IntKind.u64.wrap (s.size : Int) = (s.size : Int) := by simp [IntKind.wrap, IntKind.bits, IntKind.signed]; omega
      obtain ⟨ws, hws⟩ : ∃ ws, ws = wordsOf (bs.drop n) := ⟨_, rfl⟩
      have hwl : ws.length = 16 := by rw [hws]; exact length_wordsOf _
      obtain ⟨c2, hc2⟩ : ∃ c2, c2 = compress [e0, e1, e2, e3, e4, e5, e6, e7] ws s.size true := ⟨_, rfl⟩
      have hc2l : c2.length = 8 := by rw [hc2]; exact length_compress _ _ _ _
      have hB : ∀ w, Calls Try.prog 38 #[.string (s.extract n s.size)] w (Ret (uAgg ws) w) := by
        intro w
        have h1 := block_any (s.extract n s.size) w (by rw [ByteArray.size_extract]; omega)
        rw [Lib.extract_data, ← Hbs.out, List.take_of_length_le (by rw [List.length_drop, Hsz.out]; omega), ← hws] at h1
        exact h1
      have hC : ∀ w, Calls Try.prog 19 #[.agg #[.int .u32 (n32 e0), .int .u32 (n32 e1), .int .u32 (n32 e2), .int .u32 (n32 e3), .int .u32 (n32 e4), .int .u32 (n32 e5), .int .u32 (n32 e6), .int .u32 (n32 e7)], uAgg ws, .int .u64 (s.size : Int), .bool true] w (Ret (.agg (u32s c2).toArray) w) := by
        intro w
        have h1 := compressr_true [e0, e1, e2, e3, e4, e5, e6, e7] ws s.size w rfl hwl (by omega)
        rw [← hc2] at h1
        exact h1
      have hfin : finish (feed c0 bs 0) = bytesOf c2 := by
        rw [Hfeed.out, feed_done _ _ _ (by rw [← Hsz.out]; omega)]
        unfold finish
        simp only [List.length_drop]
        rw [← hws, show n + (bs.length - n) = s.size by rw [← Hsz.out]; omega, ← hc2]
      have HB := Lib.hid hB
      have HC := Lib.hid hC
      have Hws := Lib.hid hws
      have Hc2 := Lib.hid hc2
      have Hc2l := Lib.hid hc2l
      have Hfin := Lib.hid hfin
      clear hB hC hws hc2 hwl hc2l hbl hcb hfin
      go_wp2
      refine wp_region_ext 9 (by kernel_rfl) (by kernel_rfl) ?_
      iterate 4 (refine wpX_step (fun K hK => ?_); go_simp; refine hK _ ?_; clear hK K)
      refine wpX_step (fun K hK => ?_)
      go_simp
      refine ⟨_, fun x => HB.out x.v, hK _ ?_⟩
      clear hK K
      iterate 3 (refine wpX_step (fun K hK => ?_); go_simp; refine hK _ ?_; clear hK K)
      refine wpX_step (fun K hK => ?_)
      go_simp
      refine ⟨_, fun x => HC.out x.v, hK _ ?_⟩
      clear hK K
      refine wpX_nil ?_
      intro X
      have hXb := (X.heap _ (lt_of_block Hcb.out)).trans Hcb.out
      have hXw := below_then Hbl.out Hbl.out.size (w2 := X.v) (below_undrew X.below)
      clear q0 q1 q2 q3 q4 q5 q6 q7 HB HC Hbl Hcb
      generalize X.v = V at hXb hXw ⊢
      have hs8 : (u32s c2).toArray.size = 8 := by simp [u32s, Hc2l.out]
      have hi8 : (Try.prog.info? 31).map (·.size) = some (u32s c2).toArray.size := by rw [hs8]; kernel_rfl
      have hone : (u32s c2).toArray.all (·.oneCell') = true := by simp [u32s, Value.oneCell']
      have HXw := Lib.hid hXw
      have Hs8 := Lib.hid hs8
      clear hXw hs8
      refine wpList_store_row rfl 31 _ _ rfl b5 (u32s c2).toArray rfl rfl 31 _ hXb hi8 Hs8.out.symm hone ?_
      obtain ⟨V2, hV2⟩ : ∃ V2, V2 = V.setRow b5 (u32s c2).toArray := ⟨_, rfl⟩
      have hb2 : V2.heap[b5]? = some (.cells (u32s c2).toArray 31 (0, 0)) := by rw [hV2]; exact setRow_heap _ _ _ _ _ _ hXb
      have hw2 : Below w.heap.size w V2 := by rw [hV2]; exact below_setRow HXw.out hb5 _
      rw [← hV2]
      clear hV2 hXb HXw hi8 hone
      have hmk : ∀ w, (Instr.makeSlice 50 (.int .i64 32) (.int .i64 32)).run Try.prog w = .ok (.slice (some ⟨w.heap.size, 0, none⟩) 32 32) (w.alloc (.cells [Value.int .u8 0, Value.int .u8 0, Value.int .u8 0, Value.int .u8 0, Value.int .u8 0, Value.int .u8 0, Value.int .u8 0, Value.int .u8 0, Value.int .u8 0, Value.int .u8 0, Value.int .u8 0, Value.int .u8 0, Value.int .u8 0, Value.int .u8 0, Value.int .u8 0, Value.int .u8 0, Value.int .u8 0, Value.int .u8 0, Value.int .u8 0, Value.int .u8 0, Value.int .u8 0, Value.int .u8 0, Value.int .u8 0, Value.int .u8 0, Value.int .u8 0, Value.int .u8 0, Value.int .u8 0, Value.int .u8 0, Value.int .u8 0, Value.int .u8 0, Value.int .u8 0, Value.int .u8 0].toArray 5)) := fun _ => by kernel_rfl
      have HV2 := Lib.hid hb2
      have HW2 := Lib.hid hw2
      clear hb2 hw2
      go_wp2
      clear hmk
      refine wp_gen (fun W => Below w.heap.size w W ∧ W.heap[b5]? = some (.cells (u32s c2).toArray 31 (0, 0)) ∧ W.heap[V2.heap.size]? = some (.cells (n8s (outN c2 0)).toArray 5 (0, 0))) ?_ ?_
      · exact ⟨HW2.out.alloc HW2.out.size _, heap_old HV2.out _, heap_new _ _⟩
      rintro W3 ⟨hw3, hb3, ho3⟩
      have h7 : w.heap.size ≤ V2.heap.size := HW2.out.size
      have h75 : b5 < V2.heap.size := lt_of_block HV2.out
      obtain ⟨b7, hb7⟩ : ∃ b7, b7 = V2.heap.size := ⟨_, rfl⟩
      rw [← hb7] at ho3 h7 h75 ⊢
      clear hb7 HV2 HW2
      go_loopw [8] (fun a wr => ∃ i : Nat, i ≤ 32 ∧ a = .int .i64 i ∧ Below w.heap.size w wr ∧ wr.heap[b5]? = some (.cells (u32s c2).toArray 31 (0, 0)) ∧ wr.heap[b7]? = some (.cells (n8s (outN c2 i)).toArray 5 (0, 0))) (fun a _ => 32 - (intOf a).toNat)
      case atStart => exact ⟨0, by omega, rfl, hw3, hb3, ho3⟩
      case round =>
        obtain ⟨i, hi, rfl, hw4, hb4, ho4⟩ := hrel
        by_cases hli : i < 32
        · have d0 := cell_u32 hb4 (i / 4) (by rw [Hc2l.out]; omega)
          have d1 := cell_u8 ho4 i (by rw [length_outN]; omega)
          have d2 : wr.frozen? ⟨b7, i, none⟩ = false := frozen_of ho4 _
          have d3 : (i : Int) / 4 < 8 := by omega
          have d4 : 0 ≤ 8 * ((i : Int) % 4) := by omega
          have d5 : (8 * ((i : Int) % 4)).toNat = 8 * (i % 4) := by omega
          have d6 := byteAt_eq (at32 c2 (i / 4)) (i % 4)
          have d7 : (i : Int) < 32 := by omega
          have Hw4 := Lib.hid hw4
          have Hb4 := Lib.hid hb4
          have Ho4 := Lib.hid ho4
          clear hw4 hb4 ho4
          go_wp2
          go_roundw
          case rel =>
            refine ⟨i + 1, by omega, by go_num, Hw4.out.setCell h7 _, heap_set_other Hb4.out (by simp <;> omega) _, ?_⟩
            have h1 := heap_set Ho4.out i (.int .u8 (n8 (byteAt (at32 c2 (i / 4)) (i % 4))))
            rw [n8s_set] at h1
            exact h1
          case measure => simp [intOf]; omega
        · have Hi : Hid (i = 32) := Lib.hid (by omega)
          obtain ⟨f0, f1, f2, f3, f4, f5, f6, f7, hf⟩ := list8 Hc2l.out
          have hall : outN c2 i = bytesOf c2 := by rw [Hi.out, hf]; exact outN_all _ _ _ _ _ _ _ _
          rw [hall] at ho4
          have hbl : (bytesOf c2).length = 32 := by rw [← hall]; exact length_outN _ _
          have hcv := run_convert_bytes_back (P := Try.prog) wr 50 9 5 ⟨b7, 0, none⟩ 32 (bytesOf c2) Try.underlying50 Try.underlying5 Try.underlying9 (fun j hj => by
            have e : (⟨b7, 0, none⟩ : Addr).add j = ⟨b7, j, none⟩ := by
              unfold Addr.add
              split
              · simp_all
              · simp
            rw [e, cell_u8 ho4 j hj]
            simp [n8, at8, List.getD_eq_getElem?_getD, List.getElem?_eq_getElem hj])
          rw [hbl] at hcv
          have HR2 : R = ⟨(bytesOf c2).toArray⟩ := by rw [← HR.out, ← Hc0.out, ← Hbs.out, Hfin.out]; rfl
          have Hw4 := Lib.hid hw4
          have HR3 := Lib.hid HR2
          clear hw4 hb4 ho4 hall hbl hf HR2
          go_wp2
          go_ret
          exact ⟨by rw [HR3.out]; rfl, Hw4.out⟩

end Go.Proofs.Ytkkoldfaplonaaa
