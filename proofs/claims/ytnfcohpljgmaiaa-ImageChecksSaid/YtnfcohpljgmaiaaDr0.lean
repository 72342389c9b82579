/- The contract of the reference's Compress, its flag false. -/
import Derived.Test.YtnfcohpljgmaiaaDb
import Derived.Deep.CutBlock
namespace Go.Proofs.Ytnfcohpljgmaiaa

/-! ### CompR0 -/
section
open Go.RowKit

attribute [local go_sem] u32_add u32_xor_n u32_or_n u32_not size_setRow

set_option maxRecDepth 100000 in
set_option maxHeartbeats 2000000 in
theorem compressr_false (h m : List UInt32) (t : Nat) (w : World) (hh : h.length = 8) (hm : m.length = 16) (ht : t < 18446744073709551616) :
    Calls Try.prog 69 #[uAgg h, uAgg m, .int .u64 t, .bool false] w (Ret (uAgg (compress h m t false)) w) := by
  obtain ⟨h0, h1, h2, h3, h4, h5, h6, h7, rfl⟩ := list8 hh
  obtain ⟨m0, m1, m2, m3, m4, m5, m6, m7, m8, m9, m10, m11, m12, m13, m14, m15, rfl⟩ := list16 hm
  clear hh hm
  have hini := fun w => initialr_any w
  simp only [uAgg, u32s, iv, List.map] at hini
  generalize hR : uAgg (compress _ _ _ _) = R
  simp only [uAgg, u32s, List.map]
  have HR := Lib.hid hR
  clear hR
  have Hini := Lib.hid hini
  clear hini
  have c1 := u32_cast t
  have c2 := u32_high t ht
  go_enter Try.func69, Try.ntmps69
  go_wp2_with fail
  refine (Hini.out _).mono ?_
  rintro e w1 ⟨rfl, hb⟩
  have hz : w.heap.size + 4 ≤ w1.heap.size := by have := hb.size; simp at this; omega
  obtain ⟨hc, hf⟩ := bcell hb
  go_wp2_with fail
  clear hc hf
  obtain ⟨W, hW⟩ : ∃ W, W = w1.alloc (.cells #[Value.int .u32 (n32 0x6a09e667), Value.int .u32 (n32 0xbb67ae85), Value.int .u32 (n32 0x3c6ef372), Value.int .u32 (n32 0xa54ff53a), Value.int .u32 (n32 0x510e527f), Value.int .u32 (n32 0x9b05688c), Value.int .u32 (n32 0x1f83d9ab), Value.int .u32 (n32 0x5be0cd19)] 64) := ⟨_, rfl⟩
  have g0 : W.heap[w.heap.size]? = some (.cells [Value.int .u32 (n32 h0), Value.int .u32 (n32 h1), Value.int .u32 (n32 h2), Value.int .u32 (n32 h3), Value.int .u32 (n32 h4), Value.int .u32 (n32 h5), Value.int .u32 (n32 h6), Value.int .u32 (n32 h7)].toArray 64 (0, 0)) := by
    rw [hW]
    exact heap_old (heap_below (heap_old (heap_old (heap_old (heap_new _ _) _) _) _) hb (by simp; omega)) _
  have g1 : W.heap[w.heap.size + 1]? = some (.cells [Value.int .u32 (n32 m0), Value.int .u32 (n32 m1), Value.int .u32 (n32 m2), Value.int .u32 (n32 m3), Value.int .u32 (n32 m4), Value.int .u32 (n32 m5), Value.int .u32 (n32 m6), Value.int .u32 (n32 m7), Value.int .u32 (n32 m8), Value.int .u32 (n32 m9), Value.int .u32 (n32 m10), Value.int .u32 (n32 m11), Value.int .u32 (n32 m12), Value.int .u32 (n32 m13), Value.int .u32 (n32 m14), Value.int .u32 (n32 m15)].toArray 80 (0, 0)) := by
    rw [hW]
    exact heap_old (heap_below (heap_old (heap_old (by simpa using heap_new (w.alloc _) _) _) _) hb (by simp)) _
  have g2 : W.heap[w.heap.size + 1 + 1]? = some (.cells [Value.int .u32 0, Value.int .u32 0, Value.int .u32 0, Value.int .u32 0, Value.int .u32 0, Value.int .u32 0, Value.int .u32 0, Value.int .u32 0].toArray 64 (0, 0)) := by
    rw [hW]
    exact heap_old (heap_below (heap_old (by simpa using heap_new ((w.alloc _).alloc _) _) _) hb (by simp)) _
  have g3 : W.heap[w.heap.size + 1 + 1 + 1]? = some (.cells [Value.int .u32 0, Value.int .u32 0, Value.int .u32 0, Value.int .u32 0, Value.int .u32 0, Value.int .u32 0, Value.int .u32 0, Value.int .u32 0, Value.int .u32 0, Value.int .u32 0, Value.int .u32 0, Value.int .u32 0, Value.int .u32 0, Value.int .u32 0, Value.int .u32 0, Value.int .u32 0].toArray 80 (0, 0)) := by
    rw [hW]
    exact heap_old (heap_below (by simpa using heap_new (((w.alloc _).alloc _).alloc _) _) hb (by simp)) _
  have g4 : W.heap[w1.heap.size]? = some (.cells [Value.int .u32 (n32 0x6a09e667), Value.int .u32 (n32 0xbb67ae85), Value.int .u32 (n32 0x3c6ef372), Value.int .u32 (n32 0xa54ff53a), Value.int .u32 (n32 0x510e527f), Value.int .u32 (n32 0x9b05688c), Value.int .u32 (n32 0x1f83d9ab), Value.int .u32 (n32 0x5be0cd19)].toArray 64 (0, 0)) := by
    rw [hW]
    exact heap_new _ _
  have gB : Below w.heap.size w W := by
    rw [hW]
    exact (((((Below.refl _ _).alloc (by simp <;> omega) _).alloc (by simp <;> omega) _).alloc (by simp; omega) _).alloc (by simp; omega) _ |>.trans (hb.mono (by simp; omega))).alloc (by omega) _
  rw [← hW]
  clear hW hb
  obtain ⟨hs, hhs⟩ : ∃ hs, hs = [h0, h1, h2, h3, h4, h5, h6, h7] := ⟨_, rfl⟩
  obtain ⟨ms, hms⟩ : ∃ ms, ms = [m0, m1, m2, m3, m4, m5, m6, m7, m8, m9, m10, m11, m12, m13, m14, m15] := ⟨_, rfl⟩
  have g5 : CB w w.heap.size (w.heap.size + 1) (w.heap.size + 1 + 1) (w.heap.size + 1 + 1 + 1) hs ms (cpN hs 0) W ∧ W.heap[w1.heap.size]? = some (.cells (u32s iv).toArray 64 (0, 0)) := by
    rw [hhs, hms]
    exact ⟨⟨g0, g1, g2, g3, gB⟩, g4⟩
  have Hhs := Lib.hid hhs
  have Hms := Lib.hid hms
  clear hhs hms g0 g1 g2 g3 g4 gB
  have C1 := Lib.hid c1
  have C2 := Lib.hid c2
  clear c1 c2
  go_loopw [11] (fun i wr => ∃ k : Nat, k ≤ 8 ∧ i = .int .i64 k ∧ CB w w.heap.size (w.heap.size + 1) (w.heap.size + 1 + 1) (w.heap.size + 1 + 1 + 1) hs ms (cpN hs k) wr ∧ wr.heap[w1.heap.size]? = some (.cells (u32s iv).toArray 64 (0, 0))) (fun i _ => 8 - (intOf i).toNat)
  case atStart => exact ⟨0, by omega, rfl, g5⟩
  case round =>
    obtain ⟨k, hk, rfl, hcb, hiv⟩ := hrel
    by_cases hlt : k < 8
    · have hhl : hs.length = 8 := by rw [Hhs.out]; rfl
      have hcl := length_cpN hs k
      have a0 := cell_u32 hcb.h k (by omega)
      have a1 := cell_u32 hiv k (by simp [iv]; omega)
      have a2 := cell_u32 hcb.v k (by omega)
      have a3 := cell_u32 hcb.v (8 + k) (by omega)
      have f2 : wr.frozen? ⟨w.heap.size + 1 + 1 + 1, k, none⟩ = false := frozen_of hcb.v _
      have f3 : wr.frozen? ⟨w.heap.size + 1 + 1 + 1, 8 + k, none⟩ = false := frozen_of hcb.v _
      have hne : w1.heap.size ≠ w.heap.size + 1 + 1 + 1 := by omega
      have hbk : (k : Int) < 8 := by omega
      have Hcb := Lib.hid hcb
      have Hiv := Lib.hid hiv
      clear hcb hiv
      go_wp2
      go_roundw
      case rel =>
        refine ⟨k + 1, by omega, by go_num, ⟨heap_set_other (heap_set_other Hcb.out.h (by simp <;> omega) _) (by simp <;> omega) _, heap_set_other (heap_set_other Hcb.out.m (by simp <;> omega) _) (by simp <;> omega) _, heap_set_other (heap_set_other Hcb.out.r (by simp <;> omega) _) (by simp <;> omega) _, ?_, (Hcb.out.b.setCell (by simp <;> omega) _).setCell (by simp <;> omega) _⟩, heap_set_other (heap_set_other Hiv.out (by simp <;> omega) _) (by simp <;> omega) _⟩
        have h1 := heap_set (heap_set Hcb.out.v k (.int .u32 (n32 (at32 hs k)))) (8 + k) (.int .u32 (n32 (at32 iv k)))
        rw [u32s_set, u32s_set] at h1
        exact h1
      case measure => simp [intOf]; omega
    · obtain rfl : k = 8 := by omega
      have hcp : cpN hs 8 = hs ++ iv := by rw [Hhs.out]; exact cpN_eight _ _ _ _ _ _ _ _
      rw [hcp] at hcb
      have v12 : wr.cell? ⟨w.heap.size + 1 + 1 + 1, 12, none⟩ = some (.int .u32 (n32 0x510e527f)) := by rw [cell_of hcb.v, Hhs.out]; rfl
      have v13 : wr.cell? ⟨w.heap.size + 1 + 1 + 1, 13, none⟩ = some (.int .u32 (n32 0x9b05688c)) := by rw [cell_of hcb.v, Hhs.out]; rfl
      have v14 : wr.cell? ⟨w.heap.size + 1 + 1 + 1, 14, none⟩ = some (.int .u32 (n32 0x1f83d9ab)) := by rw [cell_of hcb.v, Hhs.out]; rfl
      have f12 : wr.frozen? ⟨w.heap.size + 1 + 1 + 1, 12, none⟩ = false := frozen_of hcb.v _
      have f13 : wr.frozen? ⟨w.heap.size + 1 + 1 + 1, 13, none⟩ = false := frozen_of hcb.v _
      have f14 : wr.frozen? ⟨w.heap.size + 1 + 1 + 1, 14, none⟩ = false := frozen_of hcb.v _
      have hbs := lt_of_block hcb.v
      have Hcb := Lib.hid hcb
      have c1 := C1.out
      have c2 := C2.out
      have hz := zero160
      have hzl : z160.length = 160 := rfl
      have hone : rowCells.toArray.all (·.oneCell') = true := by decide +kernel
      have hone2 : laneCells.toArray.all (·.oneCell') = true := by decide +kernel
      clear hcb hiv C1 C2
      go_upto_region 13 with (first | (go_at_call 77; (with_reducible refine (rows_any _).mono ?_); rintro e w2 ⟨rfl, hb2⟩) | (refine wpList_store_row rfl 102 _ _ rfl w2.heap.size rowCells.toArray rfl rfl 102 _ (heap_new _ _) (by kernel_rfl) rfl hone ?_))
      refine wp_gen (fun W => CB w w.heap.size (w.heap.size + 1) (w.heap.size + 1 + 1) (w.heap.size + 1 + 1 + 1) hs ms (v0 hs t false) W ∧ W.heap[w2.heap.size]? = some (.cells rowCells.toArray 102 (0, 0)) ∧ wr.heap.size ≤ w2.heap.size) ?_ ?_
      · have hsz2 := hb2.size
        simp only [World.size_setCell] at hsz2
        have q0 := heap_set_other (a := ⟨w.heap.size + 1 + 1 + 1, 13, none⟩) (heap_set_other (a := ⟨w.heap.size + 1 + 1 + 1, 12, none⟩) (Hcb.out.h) (by simp <;> omega) (.int .u32 (n32 (0x510e527f ^^^ UInt32.ofNat t)))) (by simp <;> omega) (.int .u32 (n32 (0x9b05688c ^^^ UInt32.ofNat (t / 4294967296))))
        have q1 := heap_set_other (a := ⟨w.heap.size + 1 + 1 + 1, 13, none⟩) (heap_set_other (a := ⟨w.heap.size + 1 + 1 + 1, 12, none⟩) (Hcb.out.m) (by simp <;> omega) (.int .u32 (n32 (0x510e527f ^^^ UInt32.ofNat t)))) (by simp <;> omega) (.int .u32 (n32 (0x9b05688c ^^^ UInt32.ofNat (t / 4294967296))))
        have q2 := heap_set_other (a := ⟨w.heap.size + 1 + 1 + 1, 13, none⟩) (heap_set_other (a := ⟨w.heap.size + 1 + 1 + 1, 12, none⟩) (Hcb.out.r) (by simp <;> omega) (.int .u32 (n32 (0x510e527f ^^^ UInt32.ofNat t)))) (by simp <;> omega) (.int .u32 (n32 (0x9b05688c ^^^ UInt32.ofNat (t / 4294967296))))
        have q3 := heap_set (heap_set (Hcb.out.v) 12 (.int .u32 (n32 (0x510e527f ^^^ UInt32.ofNat t)))) 13 (.int .u32 (n32 (0x9b05688c ^^^ UInt32.ofNat (t / 4294967296))))
        have qb := ((Hcb.out.b.setCell (p := ⟨w.heap.size + 1 + 1 + 1, 12, none⟩) (by simp <;> omega) (.int .u32 (n32 (0x510e527f ^^^ UInt32.ofNat t)))).setCell (p := ⟨w.heap.size + 1 + 1 + 1, 13, none⟩) (by simp <;> omega) (.int .u32 (n32 (0x9b05688c ^^^ UInt32.ofNat (t / 4294967296)))))
        refine ⟨⟨heap_row_other (heap_old (heap_below q0 hb2 (by simp <;> omega)) _) (by omega) _, heap_row_other (heap_old (heap_below q1 hb2 (by simp <;> omega)) _) (by omega) _, heap_row_other (heap_old (heap_below q2 hb2 (by simp <;> omega)) _) (by omega) _, ?_, below_setRow ((below_then qb qb.size hb2).alloc (by omega) _) (by omega) _⟩, setRow_heap _ _ _ _ _ _ (heap_new _ _), hsz2⟩
        have q4 := heap_row_other (heap_old (heap_below q3 hb2 (by simp <;> omega)) (.cells z160.toArray 102)) (g := w2.heap.size) (by omega) rowCells.toArray
        rw [Hhs.out] at q4 ⊢
        exact q4
      rintro W5 ⟨hcb5, hrw5, hsz5⟩
      clear v12 v13 v14 f12 f13 f14 c1 c2 Hcb hb2
      have Hcb5 := Lib.hid hcb5
      have Hrw5 := Lib.hid hrw5
      have hlt5 := lt_of_block hrw5
      clear hcb5 hrw5
      go_wp2_with (refine wpList_store_row rfl 104 _ _ rfl W5.heap.size laneCells.toArray rfl rfl 104 _ (heap_new _ _) (by kernel_rfl) rfl hone2 ?_)
      refine wp_gen (CR w w2.heap.size W5.heap.size hs ms (v0 hs t false)) ?_ ?_
      · exact ⟨⟨heap_row_other (heap_old Hcb5.out.h _) (by omega) _, heap_row_other (heap_old Hcb5.out.m _) (by omega) _, heap_row_other (heap_old Hcb5.out.r _) (by omega) _, heap_row_other (heap_old Hcb5.out.v _) (by omega) _, below_setRow (Hcb5.out.b.alloc Hcb5.out.b.size _) (by omega) _⟩,
          heap_row_other (heap_old Hrw5.out _) (by omega) _, setRow_heap _ _ _ _ _ _ (heap_new _ _), by omega, by omega⟩
      intro W6 hcr6
      obtain ⟨bt, hbt⟩ : ∃ bt, bt = w2.heap.size := ⟨_, rfl⟩
      obtain ⟨bl, hbl⟩ : ∃ bl, bl = W5.heap.size := ⟨_, rfl⟩
      rw [← hbt, ← hbl] at hcr6 ⊢
      have hbtl : bt ≠ bl := by omega
      clear hbt hbl Hcb5 Hrw5 hlt5 hsz5
      go_loopw [14] (fun k wr => ∃ r : Nat, r ≤ 10 ∧ k = .int .i64 r ∧ CR w bt bl hs ms (laps ms (v0 hs t false) r) wr) (fun k _ => 10 - (intOf k).toNat)
      case atStart => exact ⟨0, by omega, rfl, hcr6⟩
      case round =>
        obtain ⟨r, hr, rfl, hcr⟩ := hrel
        by_cases hlt : r < 10
        · have Hcr := Lib.hid hcr
          have hr10 : (r : Int) < 10 := by omega
          clear hcr
          go_wp2
          go_loopw [15] (fun k wr => ∃ i : Nat, i ≤ 8 ∧ k = .int .i64 i ∧ CR w bt bl hs ms (lap ms (laps ms (v0 hs t false) r) r i) wr) (fun k _ => 8 - (intOf k).toNat)
          case atStart => exact ⟨0, by omega, rfl, Hcr.out⟩
          case round =>
            obtain ⟨i, hi, rfl, hcr⟩ := hrel
            by_cases hli : i < 8
            · obtain ⟨vs, hvs⟩ : ∃ vs, vs = lap ms (laps ms (v0 hs t false) r) r i := ⟨_, rfl⟩
              rw [← hvs] at hcr
              have hvl : vs.length = 16 := by rw [hvs, length_lap, length_laps, Hhs.out]; rfl
              have hml : ms.length = 16 := by rw [Hms.out]; rfl
              have Hvs := Lib.hid hvs
              clear hvs
              have l0 : wr.cell? ⟨bl, i * 4, none⟩ = some (.int .i64 (laneAt i 0)) := by rw [cell_of hcr.l]; exact laneCell i 0 hli (by omega)
              have l1 : wr.cell? ⟨bl, i * 4 + 1, none⟩ = some (.int .i64 (laneAt i 1)) := by rw [cell_of hcr.l]; exact laneCell i 1 hli (by omega)
              have l2 : wr.cell? ⟨bl, i * 4 + 2, none⟩ = some (.int .i64 (laneAt i 2)) := by rw [cell_of hcr.l]; exact laneCell i 2 hli (by omega)
              have l3 : wr.cell? ⟨bl, i * 4 + 3, none⟩ = some (.int .i64 (laneAt i 3)) := by rw [cell_of hcr.l]; exact laneCell i 3 hli (by omega)
              have Hcr := Lib.hid hcr
              clear hcr
              have hbi : (i : Int) < 8 := by omega
              go_wp2
              refine wp_gen (fun W => CR w bt bl hs ms vs W ∧ W.heap[wr.heap.size]? = some (.cells #[.int .i64 (laneAt i 0), .int .i64 (laneAt i 1), .int .i64 (laneAt i 2), .int .i64 (laneAt i 3)] 96 (0, 0))) ?_ ?_
              · exact ⟨Hcr.out.grow ((Below.refl _ _).alloc (Nat.le_refl _) _), heap_new _ _⟩
              rintro W ⟨hcrW, hl⟩
              obtain ⟨b4, hb4⟩ : ∃ b4, b4 = wr.heap.size := ⟨_, rfl⟩
              have hb4t : b4 ≠ bt := by have := lt_of_block Hcr.out.t; omega
              have hb4l : b4 ≠ bl := by have := lt_of_block Hcr.out.l; omega
              have hb44 : w.heap.size + 4 ≤ b4 := by have := lt_of_block Hcr.out.t; have := Hcr.out.t4; omega
              rw [← hb4] at hl ⊢
              clear hb4 Hcr l0 l1 l2 l3
              have hlt0 := laneAt_lt i 0
              have hlt1 := laneAt_lt i 1
              have hlt2 := laneAt_lt i 2
              have hlt3 := laneAt_lt i 3
              have hmt0 := schedAt_lt r (2 * i)
              have hmt1 := schedAt_lt r (2 * i + 1)
              have l0 : ∀ x : Ext W.drew, x.v.cell? ⟨b4, 0, none⟩ = some (.int .i64 (laneAt i 0)) := fun x => (x.cell _ _ (lt_of_block hl)).trans (by show W.cell? _ = _; rw [cell_of hl]; rfl)
              have l1 : ∀ x : Ext W.drew, x.v.cell? ⟨b4, 1, none⟩ = some (.int .i64 (laneAt i 1)) := fun x => (x.cell _ _ (lt_of_block hl)).trans (by show W.cell? _ = _; rw [cell_of hl]; rfl)
              have l2 : ∀ x : Ext W.drew, x.v.cell? ⟨b4, 2, none⟩ = some (.int .i64 (laneAt i 2)) := fun x => (x.cell _ _ (lt_of_block hl)).trans (by show W.cell? _ = _; rw [cell_of hl]; rfl)
              have l3 : ∀ x : Ext W.drew, x.v.cell? ⟨b4, 3, none⟩ = some (.int .i64 (laneAt i 3)) := fun x => (x.cell _ _ (lt_of_block hl)).trans (by show W.cell? _ = _; rw [cell_of hl]; rfl)
              have c0 : ∀ x : Ext W.drew, x.v.cell? ⟨w.heap.size + 1 + 1 + 1, laneAt i 0, none⟩ = some (.int .u32 (n32 (at32 vs (laneAt i 0)))) := fun x => (x.cell _ _ (lt_of_block hcrW.cb.v)).trans (cell_u32 hcrW.cb.v (laneAt i 0) (by omega))
              have c1 : ∀ x : Ext W.drew, x.v.cell? ⟨w.heap.size + 1 + 1 + 1, laneAt i 1, none⟩ = some (.int .u32 (n32 (at32 vs (laneAt i 1)))) := fun x => (x.cell _ _ (lt_of_block hcrW.cb.v)).trans (cell_u32 hcrW.cb.v (laneAt i 1) (by omega))
              have c2 : ∀ x : Ext W.drew, x.v.cell? ⟨w.heap.size + 1 + 1 + 1, laneAt i 2, none⟩ = some (.int .u32 (n32 (at32 vs (laneAt i 2)))) := fun x => (x.cell _ _ (lt_of_block hcrW.cb.v)).trans (cell_u32 hcrW.cb.v (laneAt i 2) (by omega))
              have c3 : ∀ x : Ext W.drew, x.v.cell? ⟨w.heap.size + 1 + 1 + 1, laneAt i 3, none⟩ = some (.int .u32 (n32 (at32 vs (laneAt i 3)))) := fun x => (x.cell _ _ (lt_of_block hcrW.cb.v)).trans (cell_u32 hcrW.cb.v (laneAt i 3) (by omega))
              have k0 : ∀ x : Ext W.drew, x.v.cell? ⟨w.heap.size + 1, schedAt r (2 * i), none⟩ = some (.int .u32 (n32 (at32 ms (schedAt r (2 * i))))) := fun x => (x.cell _ _ (lt_of_block hcrW.cb.m)).trans (cell_u32 hcrW.cb.m (schedAt r (2 * i)) (by omega))
              have k1 : ∀ x : Ext W.drew, x.v.cell? ⟨w.heap.size + 1, schedAt r (2 * i + 1), none⟩ = some (.int .u32 (n32 (at32 ms (schedAt r (2 * i + 1))))) := fun x => (x.cell _ _ (lt_of_block hcrW.cb.m)).trans (cell_u32 hcrW.cb.m (schedAt r (2 * i + 1)) (by omega))
              have s0 : ∀ x : Ext W.drew, x.v.cell? ⟨bt, r * 16 + 2 * i, none⟩ = some (.int .i64 (schedAt r (2 * i))) := fun x => (x.cell _ _ (lt_of_block hcrW.t)).trans (by show W.cell? _ = _; rw [cell_of hcrW.t]; exact rowCell r (2 * i) hlt (by omega))
              have s1 : ∀ x : Ext W.drew, x.v.cell? ⟨bt, r * 16 + (2 * i + 1), none⟩ = some (.int .i64 (schedAt r (2 * i + 1))) := fun x => (x.cell _ _ (lt_of_block hcrW.t)).trans (by show W.cell? _ = _; rw [cell_of hcrW.t]; exact rowCell r (2 * i + 1) hlt (by omega))
              have hI0 : ((laneAt i 0 : Nat) : Int) < 16 := by omega
              have hI1 : ((laneAt i 1 : Nat) : Int) < 16 := by omega
              have hI2 : ((laneAt i 2 : Nat) : Int) < 16 := by omega
              have hI3 : ((laneAt i 3 : Nat) : Int) < 16 := by omega
              have hJ0 : ((schedAt r (2 * i) : Nat) : Int) < 16 := by omega
              have hJ1 : ((schedAt r (2 * i + 1) : Nat) : Int) < 16 := by omega
              have hw0 : IntKind.i64.wrap (2 * (i : Int)) = 2 * (i : Int) := IntWalk.i64_in _ (by omega)
              have hw1 : IntKind.i64.wrap (2 * (i : Int) + 1) = 2 * (i : Int) + 1 := IntWalk.i64_in _ (by omega)
              have hp0 : 0 ≤ 2 * (i : Int) := by omega
              have hp1 : 0 ≤ 2 * (i : Int) + 1 := by omega
              have hq0 : 2 * (i : Int) < 16 := by omega
              have hq1 : 2 * (i : Int) + 1 < 16 := by omega
              have ht0 : (2 * (i : Int)).toNat = 2 * i := by omega
              have ht1 : (2 * (i : Int) + 1).toNat = 2 * i + 1 := by omega
              refine wp_region_alloc 35 17 98 #[.int .u32 0, .int .u32 0, .int .u32 0, .int .u32 0] (by kernel_rfl) (by kernel_rfl) rfl rfl rfl (by kernel_rfl) (by simp) (fun a w => by go_simp) ?_
              iterate 34 (refine wpX_step (fun K hK => ?_); go_simp; refine hK _ ?_; clear hK K)
              refine wpX_step (fun K hK => ?_)
              go_simp
              refine ⟨_, fun x => mixr_lit _ _ _ _ _ _ x.v, hK _ ?_⟩
              clear hK K
              refine wpX_step (fun K hK => ?_)
              go_simp
              intro xv
              refine hK _ ?_
              clear hK K
              refine wpX_nil ?_
              intro X b hbb hbz hbe
              have he : xv = .pointer (some ⟨b, 0, none⟩) := hbe
              subst he
              clear hbe l0 l1 l2 l3 c0 c1 c2 c3 k0 k1 s0 s1
              obtain ⟨q, hq⟩ : ∃ q, q = mix (at32 vs (laneAt i 0)) (at32 vs (laneAt i 1)) (at32 vs (laneAt i 2)) (at32 vs (laneAt i 3)) (at32 ms (schedAt r (2 * i))) (at32 ms (schedAt r (2 * i + 1))) := ⟨_, rfl⟩
              rw [← hq]
              have Hq := Lib.hid hq
              clear hq
              have hXc := hcrW.grow (w' := X.v) (below_undrew X.below)
              have hXl : X.v.heap[b4]? = some (.cells #[.int .i64 (laneAt i 0), .int .i64 (laneAt i 1), .int .i64 (laneAt i 2), .int .i64 (laneAt i 3)] 96 (0, 0)) := (X.heap _ (lt_of_block hl)).trans hl
              have hb1 : b ≠ bt := by have := lt_of_block hcrW.t; omega
              have hb2 : b ≠ bl := by have := lt_of_block hcrW.l; omega
              have hb3 : b ≠ b4 := by have := lt_of_block hl; omega
              have hb5 : w.heap.size + 4 ≤ b := by have := lt_of_block hl; omega
              generalize X.v = V at hbz hXl hXc ⊢
              clear hcrW hl
              have z0 : V.cell? ⟨b, 0, none⟩ = some (.int .u32 0) := by rw [cell_of hbz]; rfl
              have z1 : V.cell? ⟨b, 1, none⟩ = some (.int .u32 0) := by rw [cell_of hbz]; rfl
              have z2 : V.cell? ⟨b, 2, none⟩ = some (.int .u32 0) := by rw [cell_of hbz]; rfl
              have z3 : V.cell? ⟨b, 3, none⟩ = some (.int .u32 0) := by rw [cell_of hbz]; rfl
              have y0 : V.frozen? ⟨b, 0, none⟩ = false := frozen_of hbz _
              have y1 : V.frozen? ⟨b, 1, none⟩ = false := frozen_of hbz _
              have y2 : V.frozen? ⟨b, 2, none⟩ = false := frozen_of hbz _
              have y3 : V.frozen? ⟨b, 3, none⟩ = false := frozen_of hbz _
              have Hbz := Lib.hid hbz
              have HXl := Lib.hid hXl
              have HXc := Lib.hid hXc
              clear hbz hXl hXc
              go_wp2
              refine wp_gen (fun W => CR w bt bl hs ms vs W ∧ W.heap[b]? = some (.cells #[.int .u32 (n32 q.a), .int .u32 (n32 q.b), .int .u32 (n32 q.c), .int .u32 (n32 q.d)] 98 (0, 0)) ∧ W.heap[b4]? = some (.cells #[.int .i64 (laneAt i 0), .int .i64 (laneAt i 1), .int .i64 (laneAt i 2), .int .i64 (laneAt i 3)] 96 (0, 0))) ?_ ?_
              · exact ⟨(((HXc.out.store hb5 hb1 hb2 0 _).store hb5 hb1 hb2 1 _).store hb5 hb1 hb2 2 _).store hb5 hb1 hb2 3 _, heap_set (heap_set (heap_set (heap_set Hbz.out _ _) _ _) _ _) _ _,
                  heap_set_other (heap_set_other (heap_set_other (heap_set_other HXl.out (by simp <;> omega) _) (by simp <;> omega) _) (by simp <;> omega) _) (by simp <;> omega) _⟩
              clear z0 z1 z2 z3 y0 y1 y2 y3 Hbz HXl HXc V
              rintro V ⟨hcb3, hb3, hl3⟩
              go_loopw [18] (fun k wr => ∃ j : Nat, j ≤ 4 ∧ k = .int .i64 j ∧ CR w bt bl hs ms (setN vs i q j) wr ∧ wr.heap[b]? = some (.cells #[.int .u32 (n32 q.a), .int .u32 (n32 q.b), .int .u32 (n32 q.c), .int .u32 (n32 q.d)] 98 (0, 0)) ∧ wr.heap[b4]? = some (.cells #[.int .i64 (laneAt i 0), .int .i64 (laneAt i 1), .int .i64 (laneAt i 2), .int .i64 (laneAt i 3)] 96 (0, 0))) (fun k _ => 4 - (intOf k).toNat)
              case atStart => exact ⟨0, by omega, rfl, hcb3, hb3, hl3⟩
              case round =>
                obtain ⟨j, hj, rfl, hcb4, hb4, hl4⟩ := hrel
                by_cases hlj : j < 4
                · have hlj2 := laneAt_lt i j
                  have hlj3 : ((laneAt i j : Nat) : Int) < 16 := by omega
                  have hlj4 : (j : Int) < 4 := by omega
                  have d0 : ∀ x : Ext wr.drew, x.v.cell? ⟨b4, j, none⟩ = some (.int .i64 (laneAt i j)) := fun x => (x.cell _ _ (lt_of_block hl4)).trans (by show wr.cell? _ = _; rw [cell_of hl4]; exact lane4 i j hlj)
                  have d1 : ∀ x : Ext wr.drew, x.v.cell? ⟨b, j, none⟩ = some (.int .u32 (n32 (q.at j))) := fun x => (x.cell _ _ (lt_of_block hb4)).trans (by show wr.cell? _ = _; rw [cell_of hb4]; exact quad4 q j hlj)
                  have Hcb4 := Lib.hid hcb4
                  have Hb4 := Lib.hid hb4
                  have Hl4 := Lib.hid hl4
                  clear hcb4 hb4 hl4
                  go_wp2
                  refine wp_region_ext 7 (by kernel_rfl) (by kernel_rfl) ?_
                  iterate 7 (refine wpX_step (fun K hK => ?_); go_simp; refine hK _ ?_; clear hK K)
                  refine wpX_nil ?_
                  intro X
                  have hXc := Hcb4.out.grow (w' := X.v) (below_undrew X.below)
                  have hXb := (X.heap _ (lt_of_block Hb4.out)).trans Hb4.out
                  have hXl := (X.heap _ (lt_of_block Hl4.out)).trans Hl4.out
                  clear d0 d1 Hcb4 Hb4 Hl4
                  generalize X.v = V at hXc hXb hXl ⊢
                  have k0 := cell_u32 hXc.cb.v (laneAt i j) (by rw [length_setN]; omega)
                  have f0 : V.frozen? ⟨w.heap.size + 1 + 1 + 1, laneAt i j, none⟩ = false := frozen_of hXc.cb.v _
                  have HXc := Lib.hid hXc
                  have HXb := Lib.hid hXb
                  have HXl := Lib.hid hXl
                  clear hXc hXb hXl
                  go_wp2
                  go_roundw
                  case rel => exact ⟨j + 1, by omega, by go_num, HXc.out.setV (laneAt i j) (q.at j), heap_set_other HXb.out (by simp <;> omega) _, heap_set_other HXl.out (by simp <;> omega) _⟩
                  case measure => simp [intOf]; omega
                · have Hj : Hid (j = 4) := Lib.hid (by omega)
                  have Hcb4 := Lib.hid hcb4
                  clear hcb4 hb4 hl4
                  go_wp2
                  go_roundw
                  case rel =>
                    refine ⟨i + 1, by omega, by go_num, ?_⟩
                    have h1 := Hcb4.out
                    rw [Hj.out, setN_four, Hq.out, Hvs.out] at h1
                    exact h1
                  case measure => simp [intOf]; omega
            · have Hcr := Lib.hid hcr
              have Hi : Hid (i = 8) := Lib.hid (by omega)
              clear hcr
              go_wp2
              go_roundw
              case rel =>
                have h1 := Hcr.out
                rw [Hi.out] at h1
                exact ⟨r + 1, by omega, by go_num, h1⟩
              case measure => simp [intOf]; omega
        · obtain ⟨vs, hvs⟩ : ∃ vs, vs = laps ms (v0 hs t false) r := ⟨_, rfl⟩
          have Hr : Hid (r = 10) := Lib.hid (by omega)
          rw [← hvs] at hcr
          have Hvs := Lib.hid hvs
          have Hcr := Lib.hid hcr
          clear hcr hvs
          go_wp2
          go_loopw [19] (fun k wr => ∃ j : Nat, j ≤ 8 ∧ k = .int .i64 j ∧ CR w bt bl (finN hs vs j) ms vs wr) (fun k _ => 8 - (intOf k).toNat)
          case atStart => exact ⟨0, by omega, rfl, Hcr.out⟩
          case round =>
            obtain ⟨j, hj, rfl, hcb4⟩ := hrel
            by_cases hlj : j < 8
            · have hvl : vs.length = 16 := by rw [Hvs.out, length_laps, Hhs.out]; rfl
              have hhl : (finN hs vs j).length = 8 := by rw [length_finN, Hhs.out]; rfl
              have k0 : ∀ x : Ext wr.drew, x.v.cell? ⟨w.heap.size, j, none⟩ = some (.int .u32 (n32 (at32 (finN hs vs j) j))) := fun x => (x.cell _ _ (lt_of_block hcb4.cb.h)).trans (cell_u32 hcb4.cb.h j (by omega))
              have k1 : ∀ x : Ext wr.drew, x.v.cell? ⟨w.heap.size + 1 + 1 + 1, j, none⟩ = some (.int .u32 (n32 (at32 vs j))) := fun x => (x.cell _ _ (lt_of_block hcb4.cb.v)).trans (cell_u32 hcb4.cb.v j (by omega))
              have k2 : ∀ x : Ext wr.drew, x.v.cell? ⟨w.heap.size + 1 + 1 + 1, j + 8, none⟩ = some (.int .u32 (n32 (at32 vs (j + 8)))) := fun x => (x.cell _ _ (lt_of_block hcb4.cb.v)).trans (cell_u32 hcb4.cb.v (j + 8) (by omega))
              have b0 : (j : Int) < 8 := by omega
              have b1 : (j : Int) < 16 := by omega
              have b2 : (j : Int) + 8 < 16 := by omega
              have b3 : IntKind.i64.wrap ((j : Int) + 8) = (j : Int) + 8 := IntWalk.i64_in _ (by omega)
              have b4 : ((j : Int) + 8).toNat = j + 8 := by omega
              have b5 : 0 ≤ (j : Int) + 8 := by omega
              have Hcb4 := Lib.hid hcb4
              clear hcb4
              go_wp2
              refine wp_region_ext 14 (by kernel_rfl) (by kernel_rfl) ?_
              iterate 14 (refine wpX_step (fun K hK => ?_); go_simp; refine hK _ ?_; clear hK K)
              refine wpX_nil ?_
              intro X
              have hXc := Hcb4.out.grow (w' := X.v) (below_undrew X.below)
              clear k0 k1 k2 Hcb4
              generalize X.v = V at hXc ⊢
              have k0 := cell_u32 hXc.cb.h j (by omega)
              have f0 : V.frozen? ⟨w.heap.size, j, none⟩ = false := frozen_of hXc.cb.h _
              have HXc := Lib.hid hXc
              clear hXc
              go_wp2
              go_roundw
              case rel =>
                have h1 := HXc.out.setH j (at32 (finN hs vs j) j ^^^ (at32 vs j ^^^ at32 vs (j + 8)))
                rw [← UInt32.xor_assoc] at h1
                refine ⟨j + 1, by omega, by go_num, ?_⟩
                rw [finN, ← UInt32.xor_assoc]
                exact h1
              case measure => simp [intOf]; omega
            · obtain rfl : j = 8 := by omega
              have hfin : finN hs vs 8 = compress hs ms t false := by rw [Hhs.out, finN_eight]; unfold compress; rw [← Hhs.out, ← Hr.out, ← Hvs.out]
              rw [hfin] at hcb4
              obtain ⟨e0, e1, e2, e3, e4, e5, e6, e7, hes⟩ := list8 (length_compress hs ms t false)
              rw [hes] at hcb4
              have HR2 : R = .agg #[.int .u32 (n32 e0), .int .u32 (n32 e1), .int .u32 (n32 e2), .int .u32 (n32 e3), .int .u32 (n32 e4), .int .u32 (n32 e5), .int .u32 (n32 e6), .int .u32 (n32 e7)] := by
                rw [← HR.out, ← Hhs.out, ← Hms.out, hes]
                rfl
              have hh8 : wr.heap[w.heap.size]? = some (.cells #[.int .u32 (n32 e0), .int .u32 (n32 e1), .int .u32 (n32 e2), .int .u32 (n32 e3), .int .u32 (n32 e4), .int .u32 (n32 e5), .int .u32 (n32 e6), .int .u32 (n32 e7)] 64 (0, 0)) := hcb4.cb.h
              have hr8 := hcb4.cb.r
              have hone : (#[.int .u32 (n32 e0), .int .u32 (n32 e1), .int .u32 (n32 e2), .int .u32 (n32 e3), .int .u32 (n32 e4), .int .u32 (n32 e5), .int .u32 (n32 e6), .int .u32 (n32 e7)] : Array Value).all (·.oneCell') = true := by simp [Value.oneCell']
              have HBw := Lib.hid hcb4.cb.b
              clear hcb4 hfin hes
              go_wp2_with (first | (refine wpList_load_row rfl 64 _ rfl w.heap.size rfl 64 _ _ _ hh8 Try.underlying64 rfl (by kernel_rfl) ?_) | (refine wpList_store_row rfl 64 _ _ rfl (w.heap.size + 1 + 1) #[.int .u32 (n32 e0), .int .u32 (n32 e1), .int .u32 (n32 e2), .int .u32 (n32 e3), .int .u32 (n32 e4), .int .u32 (n32 e5), .int .u32 (n32 e6), .int .u32 (n32 e7)] rfl rfl 64 _ hr8 (by kernel_rfl) rfl hone ?_))
              (try simp only [Exit.inBlock, Exit.then])
              refine bodyPost_ret (results_cell_row rfl _ _ (w.heap.size + 1 + 1) 64 #[.int .u32 (n32 e0), .int .u32 (n32 e1), .int .u32 (n32 e2), .int .u32 (n32 e3), .int .u32 (n32 e4), .int .u32 (n32 e5), .int .u32 (n32 e6), .int .u32 (n32 e7)] (0, 0) _ rfl (setRow_heap _ _ _ _ _ _ hr8) Try.underlying64 rfl (by kernel_rfl)) rfl ?_
              exact ⟨by rw [HR2], below_setRow HBw.out (by omega) _⟩
end

end Go.Proofs.Ytnfcohpljgmaiaa
