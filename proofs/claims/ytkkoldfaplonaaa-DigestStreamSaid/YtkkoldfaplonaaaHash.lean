/- The contracts of digest.New, of (*digest.Hash).Write and of (*digest.Hash).Sum. -/
import Derived.Test.YtkkoldfaplonaaaSumsR
namespace Go.Proofs.Ytkkoldfaplonaaa
open Go.RowKit

/-- What New gives: a hash in new memory that has taken in nothing. -/
def NewPost (w : World) : Ending → World → Prop := fun e w' =>
  ∃ b v, e = .returned (.pointer (some ⟨b, 0, none⟩)) ∧ w.heap.size ≤ b ∧ StAt w' w.heap.size b 69 [.int .i64 0] (start0 []) v ∧ Below w.heap.size w w'

set_option maxRecDepth 100000 in
set_option maxHeartbeats 2000000 in
theorem new_any (w : World) : Calls Try.prog 20 #[] w (NewPost w) := by
  go_enter Try.func20, Try.ntmps20
  go_wp2_with (go_at_call 26; (with_reducible refine (start_lit (⟨#[]⟩ : ByteArray) _ (by decide)).mono ?_); rintro e w1 ⟨e0, e1, e2, e3, e4, e5, e6, e7, a, cap, rfl, hc, hseg, hb⟩; have Hc := Lib.hid hc; have Hseg := Lib.hid hseg; have Hb := Lib.hid hb; clear hc hseg hb; obtain ⟨l0, hl0⟩ : ∃ l0, l0 = padKey (⟨#[]⟩ : ByteArray).data.toList := ⟨_, rfl⟩; rw [← hl0] at Hseg ⊢; have Hl0 := Lib.hid hl0; clear hl0)
  go_ret
  have hn : Below w1.heap.size w1 (w1.alloc (.cells #[.int .u32 (n32 e0), .int .u32 (n32 e1), .int .u32 (n32 e2), .int .u32 (n32 e3), .int .u32 (n32 e4), .int .u32 (n32 e5), .int .u32 (n32 e6), .int .u32 (n32 e7), .slice a l0.length cap, .int .u64 0, .int .i64 0] 69)) := (Below.refl _ _).alloc (Nat.le_refl _) _
  refine ⟨w1.heap.size, .slice a l0.length cap, rfl, Hb.out.size, ⟨?_, ?_, fun g hg => by have := (Hseg.out.lt g hg).2; omega, rfl⟩, below_then Hb.out Hb.out.size hn⟩
  · have h1 := heap_new w1 (.cells #[.int .u32 (n32 e0), .int .u32 (n32 e1), .int .u32 (n32 e2), .int .u32 (n32 e3), .int .u32 (n32 e4), .int .u32 (n32 e5), .int .u32 (n32 e6), .int .u32 (n32 e7), .slice a l0.length cap, .int .u64 0, .int .i64 0] 69)
    have e9 : (start0 []).chain = [e0, e1, e2, e3, e4, e5, e6, e7] := Hc.out
    rw [e9]
    exact h1
  · have h1 := Hseg.out.below hn
    rw [Hl0.out] at h1
    rw [Hl0.out]
    exact h1

def tot (l : List ByteArray) : Nat := (l.map ByteArray.size).sum
def takes (st : St) (l : List ByteArray) : St := l.foldl (fun st s => take1 st s.data.toList) st
def strAt (l : List ByteArray) (j : Nat) : ByteArray := l.getD j ⟨#[]⟩
theorem take_snocS (l : List ByteArray) (j : Nat) (h : j < l.length) : l.take (j + 1) = l.take j ++ [strAt l j] := by
  rw [List.take_add_one]
  simp [strAt, List.getD_eq_getElem?_getD, List.getElem?_eq_getElem h]
theorem tot_snoc (l : List ByteArray) (s : ByteArray) : tot (l ++ [s]) = tot l + s.size := by simp [tot]
theorem takes_snoc (st : St) (l : List ByteArray) (s : ByteArray) : takes st (l ++ [s]) = take1 (takes st l) s.data.toList := by simp [takes]
theorem tot_take_le (l : List ByteArray) (j : Nat) : tot (l.take j) ≤ tot l := by
  have h : tot l = tot (l.take j) + tot (l.drop j) := by
    unfold tot
    rw [← List.sum_append, ← List.map_append, List.take_append_drop]
  omega
theorem takes_facts (l : List ByteArray) : ∀ st : St, st.chain.length = 8 → (takes st l).count + (takes st l).rest.length = st.count + st.rest.length + tot l ∧ (takes st l).chain.length = 8 := by
  induction l with
  | nil => exact fun st h => ⟨rfl, h⟩
  | cons s l ih =>
    intro st h
    have h1 := feed_facts (st.rest ++ s.data.toList).length st.chain (st.rest ++ s.data.toList) st.count (Nat.le_refl _) h
    have h2 := ih (take1 st s.data.toList) h1.2.2
    refine ⟨?_, h2.2⟩
    have e : (take1 st s.data.toList).count + (take1 st s.data.toList).rest.length = st.count + (st.rest ++ s.data.toList).length := h1.2.1
    show (takes (take1 st s.data.toList) l).count + (takes (take1 st s.data.toList) l).rest.length = _
    rw [h2.1, e, List.length_append]
    simp only [tot, List.map_cons, List.sum_cons, Array.length_toList]
    show st.count + (st.rest.length + s.size) + _ = _
    omega

/-- The strings l lie at a. -/
def StrsAt (w : World) (a : Option Addr) (l : List ByteArray) : Prop := ∀ j, j < l.length → ∃ ad, a = some ad ∧ w.cell? (ad.add j) = some (.string (strAt l j))
theorem add_block (a : Addr) (j : Nat) : (a.add j).block = a.block := by
  unfold Addr.add
  split <;> rfl

/-- What Write leaves. -/
def WritePost (w : World) (base b : Nat) (T : TypeId) (st : St) (v : Value) (tk : Nat) (l : List ByteArray) (w' : World) : Prop :=
  ∃ v', StAt w' base b T [.int .i64 ((tk + tot l : Nat) : Int)] (takes st l) v' ∧ Keeps (fun k => k = b ∨ some k = v.ownBlock) w w' ∧ (v'.ownBlock = v.ownBlock ∨ ∃ k, w.heap.size ≤ k ∧ v'.ownBlock = some k)

theorem st_cell10 {w : World} {b : Nat} {T : TypeId} {c : List UInt32} {v x : Value} {n : Nat} (h0 : w.heap[b]? = some (.cells (stCells c v n ++ [x]).toArray T (0, 0))) (h8 : c.length = 8) : w.cell? ⟨b, 10, none⟩ = some x ∧ w.frozen? ⟨b, 10, none⟩ = false := by
  obtain ⟨e0, e1, e2, e3, e4, e5, e6, e7, hc⟩ := list8 h8
  rw [hc] at h0
  exact ⟨by rw [cell_of h0]; rfl, frozen_of h0 10⟩
theorem st_set10 {c : List UInt32} {v x u : Value} {n : Nat} (h8 : c.length = 8) : (stCells c v n ++ [x]).toArray.setIfInBounds 10 u = (stCells c v n ++ [u]).toArray := by
  obtain ⟨e0, e1, e2, e3, e4, e5, e6, e7, hc⟩ := list8 h8
  rw [hc]
  simp [stCells, u32s]

set_option maxRecDepth 100000 in
set_option maxHeartbeats 2000000 in
theorem write_any (base b : Nat) (T : TypeId) (st : St) (v : Value) (tk : Nat) (l : List ByteArray) (a : Option Addr) (cap : Nat) (w : World) (h : StAt w base b T [.int .i64 (tk : Int)] st v)
    (hbase : base ≤ w.heap.size) (hn : st.count + st.rest.length + tot l ≤ 140737488355328) (htk : tk + tot l ≤ 140737488355328) (hll : l.length ≤ 9223372036854775807)
    (hl : StrsAt w a l) (hap : 0 < l.length → ∀ ad, a = some ad → ad.block ≠ b ∧ some ad.block ≠ v.ownBlock) :
    Calls Try.prog 21 #[.pointer (some ⟨b, 0, none⟩), .slice a l.length cap] w (fun e w' => e = .returned (.int .i64 ((tk + tot l : Nat) : Int)) ∧ WritePost w base b T st v tk l w') := by
  have H := Lib.hid h
  have Hl := Lib.hid hl
  have Hap := Lib.hid hap
  have Hn := Lib.hid hn
  have Htk := Lib.hid htk
  clear h hl hap hn htk
  go_enter Try.func21, Try.ntmps21
  go_wp2
  go_loopw [9] (fun k wr => ∃ j : Nat, j ≤ l.length ∧ k = .int .i64 j ∧ WritePost w base b T st v tk (l.take j) wr) (fun k _ => l.length - (intOf k).toNat)
  case atStart => exact ⟨0, Nat.zero_le _, rfl, ⟨v, H.out, Keeps.refl _ _, .inl rfl⟩⟩
  case round =>
    obtain ⟨j, hj, rfl, v1, hst1, hk1, hown1⟩ := hrel
    by_cases hlt : j < l.length
    · have hltI : (j : Int) < (l.length : Int) := by omega
      obtain ⟨ad, rfl, hc⟩ := Hl.out j hlt
      obtain ⟨hgb, hgv⟩ := Hap.out (by omega) ad rfl
      have hc1 : wr.cell? (ad.add j) = some (.string (strAt l j)) := by
        have hlt' := World.block_lt_of_cell? w _ hc
        have hb := hk1.block (ad.add j).block hlt' (fun h => by
          rw [add_block] at h
          rcases h with h | h
          · exact hgb h
          · exact hgv h)
        simp only [World.cell?, hb]
        exact hc
      obtain ⟨s, hs⟩ : ∃ s, s = strAt l j := ⟨_, rfl⟩
      rw [← hs] at hc1
      have hts := take_snocS l j hlt
      rw [← hs] at hts
      have htl := tot_take_le l (j + 1)
      rw [hts, tot_snoc] at htl
      have hf := takes_facts (l.take j) st H.out.len
      obtain ⟨st1, hst1e⟩ : ∃ st1, st1 = takes st (l.take j) := ⟨_, rfl⟩
      obtain ⟨n1, hn1⟩ : ∃ n1, n1 = tot (l.take j) := ⟨_, rfl⟩
      rw [← hst1e] at hst1 hf
      rw [← hn1] at hst1 htl hf
      have Hst1e := Lib.hid hst1e
      have Hn1 := Lib.hid hn1
      have Hst1 := Lib.hid hst1
      have Hk1 := Lib.hid hk1
      have Hown1 := Lib.hid hown1
      have Hts := Lib.hid hts
      have hbw : base ≤ wr.heap.size := Nat.le_trans hbase hk1.size
      have hbd : st1.count + st1.rest.length + s.size ≤ 140737488355328 := by have := Hn.out; omega
      have hsz : s.size ≤ 140737488355328 := by omega
      have htk1 : tk + n1 + s.size ≤ 140737488355328 := by have := Htk.out; omega
      clear hs hc hst1e hn1 hst1 hk1 hown1 hts htl hf
      go_wp2_with (go_at_call 27; (with_reducible refine (take_any base b T _ _ _ s wr Hst1.out hbw hbd).mono ?_); rintro e w2 ⟨rfl, v2, hst2, hk2, hown2⟩; have hc10 := (st_cell10 hst2.blk hst2.len).1; have hf10 := (st_cell10 hst2.blk hst2.len).2; have Hst2 := Lib.hid hst2; have Hk2 := Lib.hid hk2; have Hown2 := Lib.hid hown2; clear hst2 hk2 hown2)
      go_roundw
      case rel =>
        refine ⟨j + 1, by omega, by go_num, v2, ?_, ?_, ?_⟩
        · rw [Hts.out, tot_snoc, takes_snoc, ← Hst1e.out, ← Hn1.out]
          have h1 := heap_set Hst2.out.blk 10 (.int .i64 ((tk + (n1 + s.size) : Nat) : Int))
          rw [st_set10 Hst2.out.len] at h1
          have e : ((tk + (n1 + s.size) : Nat) : Int) = ((tk + n1 : Nat) : Int) + (s.size : Int) := by omega
          refine ⟨?_, Hst2.out.seg.kept (S := fun k => k = b) (keeps_set _ _ _ _) Hst2.out.apart, Hst2.out.apart, Hst2.out.len⟩
          rw [e] at h1 ⊢
          exact h1
        · have k1 : Keeps (fun k => (k = b ∨ some k = v.ownBlock) ∨ w.heap.size ≤ k) wr w2 := Hk2.out.weak (fun k hk h => by
            rcases h with h | h
            · exact .inl (.inl h)
            · rcases Hown1.out with h1 | ⟨k1, hk1, h1⟩
              · exact .inl (.inr (h.trans h1))
              · rw [h1] at h
                injection h with h
                exact .inr (by omega))
          have k2 : Keeps (fun k => (k = b ∨ some k = v.ownBlock) ∨ w.heap.size ≤ k) w wr := Hk1.out.weak (fun k _ h => .inl h)
          have k3 := (k2.trans k1).trans ((keeps_set w2 b 10 (.int .i64 (((tk + n1 : Nat) : Int) + (s.size : Int)))).weak (T := fun k => (k = b ∨ some k = v.ownBlock) ∨ w.heap.size ≤ k) (fun k _ h => .inl (.inl h)))
          exact k3.weak (fun k hk h => by
            rcases h with h | h
            · exact h
            · omega)
        · rcases Hown2.out with h1 | h1
          · rcases Hown1.out with h2 | ⟨k2, hk2, h2⟩
            · exact .inl (h1.trans h2)
            · exact .inr ⟨k2, hk2, h1.trans h2⟩
          · exact .inr ⟨_, Hk1.out.size, h1⟩
      case measure => simp [intOf]; omega
    · have hje : j = l.length := by omega
      have hall : l.take j = l := List.take_of_length_le (by omega)
      rw [hall] at hst1
      have hc10 := (st_cell10 hst1.blk hst1.len).1
      have Hst1 := Lib.hid hst1
      have Hk1 := Lib.hid hk1
      have Hown1 := Lib.hid hown1
      have hltI : ¬ (j : Int) < (l.length : Int) := by omega
      clear hall hst1 hk1 hown1 hje
      go_wp2
      go_ret
      exact ⟨rfl, v1, Hst1.out, Hk1.out, Hown1.out⟩

set_option maxRecDepth 100000 in
set_option maxHeartbeats 2000000 in
theorem hsum_any (base b : Nat) (T : TypeId) (tail : List Value) (st : St) (v : Value) (w : World) (h : StAt w base b T tail st v) (hr : st.rest.length ≤ 64) (hn : st.count + st.rest.length ≤ 140737488355328) :
    Calls Try.prog 22 #[.pointer (some ⟨b, 0, none⟩)] w (Ret (.string (S8 (finish st))) w) := by
  obtain ⟨c, rest, n⟩ := st
  obtain ⟨e0, e1, e2, e3, e4, e5, e6, e7, hc⟩ := list8 h.len
  simp only at hc
  subst hc
  obtain ⟨a, cap, rfl, -, -, -⟩ := h.seg.form
  have hblk := h.blk
  have y0 : w.cell? ⟨b, 0, none⟩ = some (.int .u32 (n32 e0)) := by rw [cell_of hblk]; rfl
  have y1 : w.cell? ⟨b, 1, none⟩ = some (.int .u32 (n32 e1)) := by rw [cell_of hblk]; rfl
  have y2 : w.cell? ⟨b, 2, none⟩ = some (.int .u32 (n32 e2)) := by rw [cell_of hblk]; rfl
  have y3 : w.cell? ⟨b, 3, none⟩ = some (.int .u32 (n32 e3)) := by rw [cell_of hblk]; rfl
  have y4 : w.cell? ⟨b, 4, none⟩ = some (.int .u32 (n32 e4)) := by rw [cell_of hblk]; rfl
  have y5 : w.cell? ⟨b, 5, none⟩ = some (.int .u32 (n32 e5)) := by rw [cell_of hblk]; rfl
  have y6 : w.cell? ⟨b, 6, none⟩ = some (.int .u32 (n32 e6)) := by rw [cell_of hblk]; rfl
  have y7 : w.cell? ⟨b, 7, none⟩ = some (.int .u32 (n32 e7)) := by rw [cell_of hblk]; rfl
  obtain ⟨m, hm⟩ : ∃ m, m = (n8s (⟨[e0, e1, e2, e3, e4, e5, e6, e7], rest, n⟩ : St).rest).length := ⟨_, rfl⟩
  rw [← hm] at hblk h
  have y8 : w.cell? ⟨b, 8, none⟩ = some (.slice a m cap) := by rw [cell_of hblk]; rfl
  have y9 : w.cell? ⟨b, 9, none⟩ = some (.int .u64 (n : Int)) := by rw [cell_of hblk]; rfl
  have hC : ∀ W : World, W = w → Calls Try.prog 28 #[.agg #[.int .u32 (n32 e0), .int .u32 (n32 e1), .int .u32 (n32 e2), .int .u32 (n32 e3), .int .u32 (n32 e4), .int .u32 (n32 e5), .int .u32 (n32 e6), .int .u32 (n32 e7), .slice a m cap, .int .u64 (n : Int)]] W (Ret (.string (S8 (finish ⟨[e0, e1, e2, e3, e4, e5, e6, e7], rest, n⟩))) W) := by
    rintro W rfl
    exact sum_any base [e0, e1, e2, e3, e4, e5, e6, e7] (.slice a m cap) rest n W rfl h.seg hr hn
  generalize S8 (finish ⟨[e0, e1, e2, e3, e4, e5, e6, e7], rest, n⟩) = R at hC ⊢
  have HC := Lib.hid hC
  clear hC hm hblk h hr hn
  go_enter Try.func22, Try.ntmps22
  go_wp2_with (go_at_call 28; (with_reducible refine (HC.out _ rfl).mono ?_); rintro e w1 ⟨rfl, hb⟩)
  go_ret
  exact ⟨rfl, hb⟩

end Go.Proofs.Ytkkoldfaplonaaa
