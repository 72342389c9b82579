/- The contracts of digest.words and of the reference's block. -/
import Derived.Test.YtkkoldfaplonaaaDig
import Derived.Test.YtkkoldfaplonaaaReg
import Derived.Test.YtkkoldfaplonaaaCompA
namespace Go.Proofs.Ytkkoldfaplonaaa
open Go.RowKit

def n8 (x : UInt8) : Int := x.toNat
theorem n8_nonneg (x : UInt8) : 0 ≤ n8 x := Int.natCast_nonneg _
theorem n8_lt (x : UInt8) : n8 x < 256 := by
  have := x.toNat_lt
  unfold n8
  omega
/-- A byte of a list, closed to simp. -/
def at8 (l : List UInt8) (i : Nat) : UInt8 := l.getD i 0

/-- The bytes bs lie at a. -/
def BytesAt (w : World) (a : Option Addr) (bs : List UInt8) : Prop := ∀ j, j < bs.length → ∃ b off, a = some ⟨b, off, none⟩ ∧ w.cell? ⟨b, off + j, none⟩ = some (.int .u8 (n8 (at8 bs j)))

theorem lift8_eq (c : UInt8) (k : Nat) : n8 c * 2 ^ (8 * (k % 4)) % 4294967296 = n32 (lift8 c k) := by
  unfold n8 n32 lift8
  rw [UInt32.toNat_ofNat']
  have : ((c.toNat : Int) * 2 ^ (8 * (k % 4))) = ((c.toNat * 2 ^ (8 * (k % 4)) : Nat) : Int) := by simp
  rw [this]
  omega

structure WB (w0 : World) (br bm : Nat) (v : List UInt32) (w : World) : Prop where
  r : w.heap[br]? = some (.cells [Value.int .u32 0, Value.int .u32 0, Value.int .u32 0, Value.int .u32 0, Value.int .u32 0, Value.int .u32 0, Value.int .u32 0, Value.int .u32 0, Value.int .u32 0, Value.int .u32 0, Value.int .u32 0, Value.int .u32 0, Value.int .u32 0, Value.int .u32 0, Value.int .u32 0, Value.int .u32 0].toArray 32 (0, 0))
  m : w.heap[bm]? = some (.cells (u32s v).toArray 32 (0, 0))
  b : Below w0.heap.size w0 w

theorem u32s_modify (v : List UInt32) (j : Nat) (x : UInt32) (hj : j < v.length) : (u32s v).toArray.setIfInBounds j (.int .u32 (n32 (at32 v j ||| x))) = (u32s (v.modify j (· ||| x))).toArray := by
  have e : v.modify j (· ||| x) = v.set j (at32 v j ||| x) := by
    rw [List.modify_eq_set]
    simp [at32, List.getD_eq_getElem?_getD, List.getElem?_eq_getElem hj]
  rw [e, u32s_set]

attribute [local go_sem] u32_or_n

set_option maxRecDepth 100000 in
set_option maxHeartbeats 1000000 in
theorem words_any (a : Option Addr) (cap : Nat) (bs : List UInt8) (w : World) (hn : bs.length ≤ 64) (hb : BytesAt w a bs) :
    Calls Try.prog 37 #[.slice a bs.length cap] w (Ret (uAgg (wordsOf bs)) w) := by
  have Hb := Lib.hid hb
  clear hb
  go_enter Try.func37, Try.ntmps37
  go_wp2
  refine wp_gen (WB w w.heap.size (w.heap.size + 1) (wordsN bs 0)) ?_ ?_
  · exact ⟨heap_old (heap_new _ _) _, by have h := heap_new (w.alloc (.cells [Value.int .u32 0, Value.int .u32 0, Value.int .u32 0, Value.int .u32 0, Value.int .u32 0, Value.int .u32 0, Value.int .u32 0, Value.int .u32 0, Value.int .u32 0, Value.int .u32 0, Value.int .u32 0, Value.int .u32 0, Value.int .u32 0, Value.int .u32 0, Value.int .u32 0, Value.int .u32 0].toArray 32)) (.cells [Value.int .u32 0, Value.int .u32 0, Value.int .u32 0, Value.int .u32 0, Value.int .u32 0, Value.int .u32 0, Value.int .u32 0, Value.int .u32 0, Value.int .u32 0, Value.int .u32 0, Value.int .u32 0, Value.int .u32 0, Value.int .u32 0, Value.int .u32 0, Value.int .u32 0, Value.int .u32 0].toArray 32); rw [World.size_alloc] at h; exact h, ((Below.refl _ _).alloc (by simp) _).alloc (by simp) _⟩
  intro W hW
  go_loopw [8] (fun i wr => ∃ k : Nat, k ≤ bs.length ∧ i = .int .i64 k ∧ WB w w.heap.size (w.heap.size + 1) (wordsN bs k) wr) (fun i _ => bs.length - (intOf i).toNat)
  case atStart => exact ⟨0, by omega, rfl, hW⟩
  case round =>
    obtain ⟨k, hk, rfl, hwb⟩ := hrel
    by_cases hlt : k < bs.length
    · obtain ⟨b, off, rfl, hc⟩ := Hb.out k hlt
      have hblk := World.block_lt_of_cell? w _ hc
      have hc1 : wr.cell? ⟨b, off + k, none⟩ = some (.int .u8 (n8 (at8 bs k))) := (hwb.b.cell (p := ⟨b, off + k, none⟩) hblk).trans hc
      have hkI : (k : Int) < (bs.length : Int) := by omega
      have hl16 := length_wordsN bs k
      have c0 : ∀ x : Ext wr.drew, x.v.cell? ⟨w.heap.size + 1, k / 4, none⟩ = some (.int .u32 (n32 (at32 (wordsN bs k) (k / 4)))) := fun x => (x.cell _ _ (lt_of_block hwb.m)).trans (cell_u32 hwb.m (k / 4) (by omega))
      have e0 : IntKind.i64.wrap ((k : Int) / 4) = (k : Int) / 4 := IntWalk.i64_in _ (by omega)
      have e1 : 0 ≤ (k : Int) / 4 := by omega
      have e2 : (k : Int) / 4 < 16 := by omega
      have e3 : ((k : Int) / 4).toNat = k / 4 := by omega
      have e4 : IntKind.i64.wrap (8 * ((k : Int) % 4)) = 8 * ((k : Int) % 4) := IntWalk.i64_in _ (by omega)
      have e5 : 0 ≤ 8 * ((k : Int) % 4) := by omega
      have e6 : (8 * ((k : Int) % 4)).toNat = 8 * (k % 4) := by omega
      have e7 : (k : Int).tmod 4 = (k : Int) % 4 := Int.tmod_eq_emod_of_nonneg (by omega)
      have e8 : IntKind.u32.wrap (n8 (at8 bs k)) = n8 (at8 bs k) := by have h1 := n8_nonneg (at8 bs k); have h2 := n8_lt (at8 bs k); simp [IntKind.wrap, IntKind.bits, IntKind.signed]; omega
      have e9 : IntKind.u32.wrap (n8 (at8 bs k) * 2 ^ (8 * (k % 4))) = n32 (lift8 (at8 bs k) k) := by rw [← lift8_eq]; simp [IntKind.wrap, IntKind.bits, IntKind.signed]
      have Hwb := Lib.hid hwb
      clear hwb
      go_wp2
      refine wp_region_ext 12 (by kernel_rfl) (by kernel_rfl) ?_
      iterate 12 (refine wpX_step (fun K hK => ?_); go_simp; refine hK _ ?_; clear hK K)
      refine wpX_nil ?_
      intro X
      have hx := Hwb.out
      have hXc : WB w w.heap.size (w.heap.size + 1) (wordsN bs k) X.v :=
        ⟨(X.heap _ (lt_of_block hx.r)).trans hx.r, (X.heap _ (lt_of_block hx.m)).trans hx.m, below_then hx.b hx.b.size (w2 := X.v) (below_undrew X.below)⟩
      clear c0 hx Hwb hc1 hc hblk
      generalize X.v = V at hXc ⊢
      have k0 := cell_u32 hXc.m (k / 4) (by omega)
      have f0 : V.frozen? ⟨w.heap.size + 1, k / 4, none⟩ = false := frozen_of hXc.m _
      have HXc := Lib.hid hXc
      clear hXc
      go_wp2
      go_roundw
      case rel =>
        refine ⟨k + 1, by omega, by go_num, ⟨heap_set_other HXc.out.r (by simp <;> omega) _, ?_, HXc.out.b.setCell (by simp <;> omega) _⟩⟩
        have h1 := heap_set HXc.out.m (k / 4) (.int .u32 (n32 (at32 (wordsN bs k) (k / 4) ||| lift8 (at8 bs k) k)))
        rw [u32s_modify _ _ _ (by omega)] at h1
        exact h1
      case measure => simp [intOf]; omega
    · have hk2 : k = bs.length := by omega
      have hw1 : wordsN bs k = wordsOf bs := by rw [hk2]; rfl
      rw [hw1] at hwb
      obtain ⟨c0, c1, c2, c3, c4, c5, c6, c7, c8, c9, c10, c11, c12, c13, c14, c15, hcs⟩ := list16 (length_wordsOf bs)
      rw [hcs] at hwb
      have hm := hwb.m
      have hr := hwb.r
      simp only [u32s, List.map] at hm
      have hone : (#[.int .u32 (n32 c0), .int .u32 (n32 c1), .int .u32 (n32 c2), .int .u32 (n32 c3), .int .u32 (n32 c4), .int .u32 (n32 c5), .int .u32 (n32 c6), .int .u32 (n32 c7), .int .u32 (n32 c8), .int .u32 (n32 c9), .int .u32 (n32 c10), .int .u32 (n32 c11), .int .u32 (n32 c12), .int .u32 (n32 c13), .int .u32 (n32 c14), .int .u32 (n32 c15)] : Array Value).all (·.oneCell') = true := by simp [Value.oneCell']
      have HBw := Lib.hid hwb.b
      have Hk := Lib.hid hk2
      have Hcs := Lib.hid hcs
      clear hwb hk2 hw1 hcs
      go_wp2_with (first | (refine wpList_load_row rfl 32 _ rfl (w.heap.size + 1) rfl 32 _ _ _ hm Try.underlying32 rfl (by kernel_rfl) ?_) | (refine wpList_store_row rfl 32 _ _ rfl w.heap.size #[.int .u32 (n32 c0), .int .u32 (n32 c1), .int .u32 (n32 c2), .int .u32 (n32 c3), .int .u32 (n32 c4), .int .u32 (n32 c5), .int .u32 (n32 c6), .int .u32 (n32 c7), .int .u32 (n32 c8), .int .u32 (n32 c9), .int .u32 (n32 c10), .int .u32 (n32 c11), .int .u32 (n32 c12), .int .u32 (n32 c13), .int .u32 (n32 c14), .int .u32 (n32 c15)] rfl rfl 32 _ hr (by kernel_rfl) rfl hone ?_))
      (try simp only [Exit.inBlock, Exit.then])
      refine bodyPost_ret (results_cell_row rfl _ _ w.heap.size 32 #[.int .u32 (n32 c0), .int .u32 (n32 c1), .int .u32 (n32 c2), .int .u32 (n32 c3), .int .u32 (n32 c4), .int .u32 (n32 c5), .int .u32 (n32 c6), .int .u32 (n32 c7), .int .u32 (n32 c8), .int .u32 (n32 c9), .int .u32 (n32 c10), .int .u32 (n32 c11), .int .u32 (n32 c12), .int .u32 (n32 c13), .int .u32 (n32 c14), .int .u32 (n32 c15)] (0, 0) _ rfl (setRow_heap _ _ _ _ _ _ hr) Try.underlying32 rfl (by kernel_rfl)) rfl ?_
      exact ⟨by rw [Hcs.out]; rfl, below_setRow HBw.out (by omega) _⟩

set_option maxRecDepth 100000 in
set_option maxHeartbeats 1000000 in
theorem block_any (s : ByteArray) (w : World) (hn : s.size ≤ 64) :
    Calls Try.prog 38 #[.string s] w (Ret (uAgg (wordsOf s.data.toList)) w) := by
  obtain ⟨bs, hbs⟩ : ∃ bs, bs = s.data.toList := ⟨_, rfl⟩
  have hsz : s.size = bs.length := by rw [hbs]; simp
  have hget : ∀ k (h : k < s.size), ((s[k]'h).toNat : Int) = n8 (at8 bs k) := by
    intro k h
    rw [hbs]
    have h' : k < s.data.size := h
    have e : s[k] = s.data[k] := rfl
    rw [e]
    unfold n8 at8
    rw [List.getD_eq_getElem?_getD, Array.getElem?_toList, Array.getElem?_eq_getElem h', Option.getD_some]
  have Hbs := Lib.hid hbs
  have Hget := Lib.hid hget
  clear hbs hget
  rw [← Hbs.out]
  go_enter Try.func38, Try.ntmps38
  go_wp2
  refine wp_gen (WB w w.heap.size (w.heap.size + 1) (wordsN bs 0)) ?_ ?_
  · exact ⟨heap_old (heap_new _ _) _, by have h := heap_new (w.alloc (.cells [Value.int .u32 0, Value.int .u32 0, Value.int .u32 0, Value.int .u32 0, Value.int .u32 0, Value.int .u32 0, Value.int .u32 0, Value.int .u32 0, Value.int .u32 0, Value.int .u32 0, Value.int .u32 0, Value.int .u32 0, Value.int .u32 0, Value.int .u32 0, Value.int .u32 0, Value.int .u32 0].toArray 32)) (.cells [Value.int .u32 0, Value.int .u32 0, Value.int .u32 0, Value.int .u32 0, Value.int .u32 0, Value.int .u32 0, Value.int .u32 0, Value.int .u32 0, Value.int .u32 0, Value.int .u32 0, Value.int .u32 0, Value.int .u32 0, Value.int .u32 0, Value.int .u32 0, Value.int .u32 0, Value.int .u32 0].toArray 32); rw [World.size_alloc] at h; exact h, ((Below.refl _ _).alloc (by simp) _).alloc (by simp) _⟩
  intro W hW
  go_loopw [4] (fun i wr => ∃ k : Nat, k ≤ s.size ∧ i = .int .i64 k ∧ WB w w.heap.size (w.heap.size + 1) (wordsN bs k) wr) (fun i _ => s.size - (intOf i).toNat)
  case atStart => exact ⟨0, by omega, rfl, hW⟩
  case round =>
    obtain ⟨k, hk, rfl, hwb⟩ := hrel
    by_cases hlt : k < s.size
    · have hc1 := Hget.out k hlt
      have hkI : (k : Int) < (s.size : Int) := by omega
      have hl16 := length_wordsN bs k
      have c0 : ∀ x : Ext wr.drew, x.v.cell? ⟨w.heap.size + 1, k / 4, none⟩ = some (.int .u32 (n32 (at32 (wordsN bs k) (k / 4)))) := fun x => (x.cell _ _ (lt_of_block hwb.m)).trans (cell_u32 hwb.m (k / 4) (by omega))
      have e0 : IntKind.i64.wrap ((k : Int) / 4) = (k : Int) / 4 := IntWalk.i64_in _ (by omega)
      have e1 : 0 ≤ (k : Int) / 4 := by omega
      have e2 : (k : Int) / 4 < 16 := by omega
      have e3 : ((k : Int) / 4).toNat = k / 4 := by omega
      have e4 : IntKind.i64.wrap (8 * ((k : Int) % 4)) = 8 * ((k : Int) % 4) := IntWalk.i64_in _ (by omega)
      have e5 : 0 ≤ 8 * ((k : Int) % 4) := by omega
      have e6 : (8 * ((k : Int) % 4)).toNat = 8 * (k % 4) := by omega
      have e7 : (k : Int).tmod 4 = (k : Int) % 4 := Int.tmod_eq_emod_of_nonneg (by omega)
      have e8 : IntKind.u32.wrap (n8 (at8 bs k)) = n8 (at8 bs k) := by have h1 := n8_nonneg (at8 bs k); have h2 := n8_lt (at8 bs k); simp [IntKind.wrap, IntKind.bits, IntKind.signed]; omega
      have e9 : IntKind.u32.wrap (n8 (at8 bs k) * 2 ^ (8 * (k % 4))) = n32 (lift8 (at8 bs k) k) := by rw [← lift8_eq]; simp [IntKind.wrap, IntKind.bits, IntKind.signed]
      have Hwb := Lib.hid hwb
      clear hwb
      go_wp2
      refine wp_region_ext 16 (by kernel_rfl) (by kernel_rfl) ?_
      iterate 16 (refine wpX_step (fun K hK => ?_); go_simp; refine hK _ ?_; clear hK K)
      refine wpX_nil ?_
      intro X
      have hx := Hwb.out
      have hXc : WB w w.heap.size (w.heap.size + 1) (wordsN bs k) X.v :=
        ⟨(X.heap _ (lt_of_block hx.r)).trans hx.r, (X.heap _ (lt_of_block hx.m)).trans hx.m, below_then hx.b hx.b.size (w2 := X.v) (below_undrew X.below)⟩
      clear c0 hx Hwb
      generalize X.v = V at hXc ⊢
      have k0 := cell_u32 hXc.m (k / 4) (by omega)
      have f0 : V.frozen? ⟨w.heap.size + 1, k / 4, none⟩ = false := frozen_of hXc.m _
      have HXc := Lib.hid hXc
      clear hXc
      go_wp2
      go_roundw
      case rel =>
        refine ⟨k + 1, by omega, by go_num, ⟨heap_set_other HXc.out.r (by simp <;> omega) _, ?_, HXc.out.b.setCell (by simp <;> omega) _⟩⟩
        have h1 := heap_set HXc.out.m (k / 4) (.int .u32 (n32 (at32 (wordsN bs k) (k / 4) ||| lift8 (at8 bs k) k)))
        rw [u32s_modify _ _ _ (by omega)] at h1
        exact h1
      case measure => simp [intOf]; omega
    · have hk2 : k = bs.length := by omega
      have hw1 : wordsN bs k = wordsOf bs := by rw [hk2]; rfl
      rw [hw1] at hwb
      obtain ⟨c0, c1, c2, c3, c4, c5, c6, c7, c8, c9, c10, c11, c12, c13, c14, c15, hcs⟩ := list16 (length_wordsOf bs)
      rw [hcs] at hwb
      have hm := hwb.m
      have hr := hwb.r
      simp only [u32s, List.map] at hm
      have hone : (#[.int .u32 (n32 c0), .int .u32 (n32 c1), .int .u32 (n32 c2), .int .u32 (n32 c3), .int .u32 (n32 c4), .int .u32 (n32 c5), .int .u32 (n32 c6), .int .u32 (n32 c7), .int .u32 (n32 c8), .int .u32 (n32 c9), .int .u32 (n32 c10), .int .u32 (n32 c11), .int .u32 (n32 c12), .int .u32 (n32 c13), .int .u32 (n32 c14), .int .u32 (n32 c15)] : Array Value).all (·.oneCell') = true := by simp [Value.oneCell']
      have HBw := Lib.hid hwb.b
      have Hk := Lib.hid hk2
      have Hcs := Lib.hid hcs
      clear hwb hk2 hw1 hcs
      go_wp2_with (first | (refine wpList_load_row rfl 32 _ rfl (w.heap.size + 1) rfl 32 _ _ _ hm Try.underlying32 rfl (by kernel_rfl) ?_) | (refine wpList_store_row rfl 32 _ _ rfl w.heap.size #[.int .u32 (n32 c0), .int .u32 (n32 c1), .int .u32 (n32 c2), .int .u32 (n32 c3), .int .u32 (n32 c4), .int .u32 (n32 c5), .int .u32 (n32 c6), .int .u32 (n32 c7), .int .u32 (n32 c8), .int .u32 (n32 c9), .int .u32 (n32 c10), .int .u32 (n32 c11), .int .u32 (n32 c12), .int .u32 (n32 c13), .int .u32 (n32 c14), .int .u32 (n32 c15)] rfl rfl 32 _ hr (by kernel_rfl) rfl hone ?_))
      (try simp only [Exit.inBlock, Exit.then])
      refine bodyPost_ret (results_cell_row rfl _ _ w.heap.size 32 #[.int .u32 (n32 c0), .int .u32 (n32 c1), .int .u32 (n32 c2), .int .u32 (n32 c3), .int .u32 (n32 c4), .int .u32 (n32 c5), .int .u32 (n32 c6), .int .u32 (n32 c7), .int .u32 (n32 c8), .int .u32 (n32 c9), .int .u32 (n32 c10), .int .u32 (n32 c11), .int .u32 (n32 c12), .int .u32 (n32 c13), .int .u32 (n32 c14), .int .u32 (n32 c15)] (0, 0) _ rfl (setRow_heap _ _ _ _ _ _ hr) Try.underlying32 rfl (by kernel_rfl)) rfl ?_
      exact ⟨by rw [Hcs.out]; rfl, below_setRow HBw.out (by omega) _⟩

end Go.Proofs.Ytkkoldfaplonaaa
