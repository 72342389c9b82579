/- The contract of digest.Compress. -/
import Derived.Test.YtkkoldfaplonaaaComp
import Derived.Deep.RegionLaw
import Derived.Test.YtkkoldfaplonaaaReg
namespace Go.Proofs.Ytkkoldfaplonaaa
open Go.RowKit

theorem list8 {α : Type} {l : List α} (h : l.length = 8) : ∃ a0 a1 a2 a3 a4 a5 a6 a7, l = [a0, a1, a2, a3, a4, a5, a6, a7] := by
  match l, h with
  | [a0, a1, a2, a3, a4, a5, a6, a7], _ => exact ⟨_, _, _, _, _, _, _, _, rfl⟩
theorem list16 {α : Type} {l : List α} (h : l.length = 16) : ∃ a0 a1 a2 a3 a4 a5 a6 a7 a8 a9 a10 a11 a12 a13 a14 a15, l = [a0, a1, a2, a3, a4, a5, a6, a7, a8, a9, a10, a11, a12, a13, a14, a15] := by
  match l, h with
  | [a0, a1, a2, a3, a4, a5, a6, a7, a8, a9, a10, a11, a12, a13, a14, a15], _ => exact ⟨_, _, _, _, _, _, _, _, _, _, _, _, _, _, _, _, rfl⟩

theorem u32_cast (t : Nat) : (t : Int) % 4294967296 = n32 (UInt32.ofNat t) := by
  unfold n32
  rw [UInt32.toNat_ofNat']
  omega
theorem u32_high (t : Nat) (ht : t < 18446744073709551616) : (t : Int) / 4294967296 = n32 (UInt32.ofNat (t / 4294967296)) := by
  unfold n32
  rw [UInt32.toNat_ofNat']
  omega
theorem u32_not (x : UInt32) : bits .xor .u32 IntKind.u32.max (n32 x) = n32 (~~~ x) := by
  have e : IntKind.u32.max = n32 4294967295 := by decide +kernel
  rw [e, u32_xor_n]
  congr 1
attribute [local go_sem] u32_add u32_xor_n u32_or_n u32_not

theorem wp_gen {P : Program} {c : Code} {Q : Exit → Act → World → Prop} {a : Act} {w : World} (F : World → Prop) (h : F w) (k : ∀ w, F w → Code.wp P c Q a w) : Code.wp P c Q a w := k w h

/-- The blocks of a call of Compress. -/
structure CB (w0 : World) (bh bm br bv : Nat) (h m v : List UInt32) (w : World) : Prop where
  h : w.heap[bh]? = some (.cells (u32s h).toArray 31 (0, 0))
  m : w.heap[bm]? = some (.cells (u32s m).toArray 32 (0, 0))
  r : w.heap[br]? = some (.cells [Value.int .u32 0, Value.int .u32 0, Value.int .u32 0, Value.int .u32 0, Value.int .u32 0, Value.int .u32 0, Value.int .u32 0, Value.int .u32 0].toArray 31 (0, 0))
  v : w.heap[bv]? = some (.cells (u32s v).toArray 32 (0, 0))
  b : Below w0.heap.size w0 w

theorem lane_lit (i : Nat) (w : World) (hi : i < 8) : Calls Try.prog 33 #[.int .i64 i] w (Ret (.agg #[.int .i64 (laneAt i 0), .int .i64 (laneAt i 1), .int .i64 (laneAt i 2), .int .i64 (laneAt i 3)]) w) := lane_any i w hi
theorem sched_at (r j : Nat) (hr : r < 10) (hj : j < 16) : ∃ h : j < (schedStr r).size, 48 ≤ (((schedStr r)[j]'h).toNat : Int) ∧ (if 97 ≤ (((schedStr r)[j]'h).toNat : Int) then (((schedStr r)[j]'h).toNat : Int) - 87 else (((schedStr r)[j]'h).toNat : Int) - 48) = (schedAt r j : Int) := by
  have h : ∀ r, r < 10 → ∀ j, j < 16 → ∃ h : j < (schedStr r).size, 48 ≤ (((schedStr r)[j]'h).toNat : Int) ∧ (if 97 ≤ (((schedStr r)[j]'h).toNat : Int) then (((schedStr r)[j]'h).toNat : Int) - 87 else (((schedStr r)[j]'h).toNat : Int) - 48) = (schedAt r j : Int) := by decide +kernel
  exact h r hr j hj
def at32 (l : List UInt32) (i : Nat) : UInt32 := l.getD i 0
def Quad.at (q : Quad) : Nat → UInt32
  | 0 => q.a
  | 1 => q.b
  | 2 => q.c
  | _ => q.d
/-- v behind the first k stores of a mixing. -/
def setN (v : List UInt32) (i : Nat) (q : Quad) : Nat → List UInt32
  | 0 => v
  | k + 1 => (setN v i q k).set (laneAt i k) (q.at k)
theorem lane4 (i j : Nat) (hj : j < 4) : (#[Value.int .i64 (laneAt i 0), .int .i64 (laneAt i 1), .int .i64 (laneAt i 2), .int .i64 (laneAt i 3)])[j]? = some (.int .i64 (laneAt i j)) := by
  have h4 : j = 0 ∨ j = 1 ∨ j = 2 ∨ j = 3 := by omega
  rcases h4 with rfl | rfl | rfl | rfl <;> rfl
theorem quad4 (q : Quad) (j : Nat) (hj : j < 4) : (#[Value.int .u32 (n32 q.a), .int .u32 (n32 q.b), .int .u32 (n32 q.c), .int .u32 (n32 q.d)])[j]? = some (.int .u32 (n32 (q.at j))) := by
  have h4 : j = 0 ∨ j = 1 ∨ j = 2 ∨ j = 3 := by omega
  rcases h4 with rfl | rfl | rfl | rfl <;> rfl
/-- The chain value behind the first j words. -/
def finN (h v : List UInt32) : Nat → List UInt32
  | 0 => h
  | j + 1 => (finN h v j).set j (at32 (finN h v j) j ^^^ (at32 v j ^^^ at32 v (j + 8)))
theorem length_finN (h v : List UInt32) (j : Nat) : (finN h v j).length = h.length := by
  induction j with
  | zero => rfl
  | succ j ih => simp [finN, ih]
theorem finN_eight (h0 h1 h2 h3 h4 h5 h6 h7 : UInt32) (v : List UInt32) : finN [h0, h1, h2, h3, h4, h5, h6, h7] v 8 = fin8 [h0, h1, h2, h3, h4, h5, h6, h7] v := rfl
theorem setN_four (v : List UInt32) (i : Nat) (q : Quad) : setN v i q 4 = set4 v i q := rfl
theorem length_setN (v : List UInt32) (i : Nat) (q : Quad) (k : Nat) : (setN v i q k).length = v.length := by
  induction k with
  | zero => rfl
  | succ k ih => simp [setN, ih]
theorem u32s_set (v : List UInt32) (j : Nat) (x : UInt32) : (u32s v).toArray.setIfInBounds j (.int .u32 (n32 x)) = (u32s (v.set j x)).toArray := by
  simp [u32s, List.map_set]
theorem mix_lit (a b c d x y : UInt32) (w : World) :
    Calls Try.prog 16 #[.agg #[.int .u32 (n32 a), .int .u32 (n32 b), .int .u32 (n32 c), .int .u32 (n32 d)], .int .u32 (n32 x), .int .u32 (n32 y)] w
      (Ret (.agg #[.int .u32 (n32 (mix a b c d x y).a), .int .u32 (n32 (mix a b c d x y).b), .int .u32 (n32 (mix a b c d x y).c), .int .u32 (n32 (mix a b c d x y).d)]) w) := mix_any a b c d x y w
theorem digit_at (r j : Nat) (hr : r < 10) (hj : j < 16) (h : j < (schedStr r).size) (w : World) : Calls Try.prog 34 #[.int .u8 (((schedStr r)[j]'h).toNat : Int)] w (Ret (.int .i64 (schedAt r j : Int)) w) := by
  obtain ⟨h', h1, h2⟩ := sched_at r j hr hj
  have h3 := ((schedStr r)[j]'h).toNat_lt
  have h4 := digit_any (((schedStr r)[j]'h).toNat : Int) w h1 (by omega)
  rw [h2] at h4
  exact h4.mono fun e w' ⟨he, hw⟩ => ⟨he, by subst hw; exact Below.refl _ _⟩
theorem cell_u32 {w : World} {b : Nat} {l : List UInt32} {t : TypeId} {f : Nat × Nat} (h : w.heap[b]? = some (.cells (u32s l).toArray t f)) (i : Nat) (hi : i < l.length) :
    w.cell? ⟨b, i, none⟩ = some (.int .u32 (n32 (at32 l i))) := by
  rw [cell_of h]
  unfold at32
  simp [u32s, List.getElem?_eq_getElem hi, List.getD_eq_getElem?_getD]

set_option maxRecDepth 100000 in
set_option maxHeartbeats 1000000 in
theorem compress_any (h m : List UInt32) (t : Nat) (last : Bool) (w : World) (hh : h.length = 8) (hm : m.length = 16) (ht : t < 18446744073709551616) :
    Calls Try.prog 18 #[uAgg h, uAgg m, .int .u64 t, .bool last] w (Ret (uAgg (compress h m t last)) w) := by
  obtain ⟨h0, h1, h2, h3, h4, h5, h6, h7, rfl⟩ := list8 hh
  obtain ⟨m0, m1, m2, m3, m4, m5, m6, m7, m8, m9, m10, m11, m12, m13, m14, m15, rfl⟩ := list16 hm
  clear hh hm
  have hini := fun w => initial_any w
  simp only [uAgg, u32s, iv, List.map] at hini
  generalize hR : uAgg (compress _ _ _ _) = R
  simp only [uAgg, u32s, List.map]
  have HR := Lib.hid hR
  clear hR
  have Hini := Lib.hid hini
  clear hini
  have c1 := u32_cast t
  have c2 := u32_high t ht
  go_enter Try.func18, Try.ntmps18
  go_wp2_with fail
  refine (Hini.out _).mono ?_
  rintro e w1 ⟨rfl, hb⟩
  have hz : w.heap.size + 4 ≤ w1.heap.size := by have := hb.size; simp at this; omega
  obtain ⟨hc, hf⟩ := bcell hb
  go_wp2_with fail
  clear hc hf
  obtain ⟨W, hW⟩ : ∃ W, W = w1.alloc (.cells #[Value.int .u32 (n32 0x6a09e667), Value.int .u32 (n32 0xbb67ae85), Value.int .u32 (n32 0x3c6ef372), Value.int .u32 (n32 0xa54ff53a), Value.int .u32 (n32 0x510e527f), Value.int .u32 (n32 0x9b05688c), Value.int .u32 (n32 0x1f83d9ab), Value.int .u32 (n32 0x5be0cd19)] 31) := ⟨_, rfl⟩
  have g0 : W.heap[w.heap.size]? = some (.cells [Value.int .u32 (n32 h0), Value.int .u32 (n32 h1), Value.int .u32 (n32 h2), Value.int .u32 (n32 h3), Value.int .u32 (n32 h4), Value.int .u32 (n32 h5), Value.int .u32 (n32 h6), Value.int .u32 (n32 h7)].toArray 31 (0, 0)) := by
    rw [hW]
    exact heap_old (heap_below (heap_old (heap_old (heap_old (heap_new _ _) _) _) _) hb (by simp; omega)) _
  have g1 : W.heap[w.heap.size + 1]? = some (.cells [Value.int .u32 (n32 m0), Value.int .u32 (n32 m1), Value.int .u32 (n32 m2), Value.int .u32 (n32 m3), Value.int .u32 (n32 m4), Value.int .u32 (n32 m5), Value.int .u32 (n32 m6), Value.int .u32 (n32 m7), Value.int .u32 (n32 m8), Value.int .u32 (n32 m9), Value.int .u32 (n32 m10), Value.int .u32 (n32 m11), Value.int .u32 (n32 m12), Value.int .u32 (n32 m13), Value.int .u32 (n32 m14), Value.int .u32 (n32 m15)].toArray 32 (0, 0)) := by
    rw [hW]
    exact heap_old (heap_below (heap_old (heap_old (by simpa using heap_new (w.alloc _) _) _) _) hb (by simp)) _
  have g2 : W.heap[w.heap.size + 1 + 1]? = some (.cells [Value.int .u32 0, Value.int .u32 0, Value.int .u32 0, Value.int .u32 0, Value.int .u32 0, Value.int .u32 0, Value.int .u32 0, Value.int .u32 0].toArray 31 (0, 0)) := by
    rw [hW]
    exact heap_old (heap_below (heap_old (by simpa using heap_new ((w.alloc _).alloc _) _) _) hb (by simp)) _
  have g3 : W.heap[w.heap.size + 1 + 1 + 1]? = some (.cells [Value.int .u32 0, Value.int .u32 0, Value.int .u32 0, Value.int .u32 0, Value.int .u32 0, Value.int .u32 0, Value.int .u32 0, Value.int .u32 0, Value.int .u32 0, Value.int .u32 0, Value.int .u32 0, Value.int .u32 0, Value.int .u32 0, Value.int .u32 0, Value.int .u32 0, Value.int .u32 0].toArray 32 (0, 0)) := by
    rw [hW]
    exact heap_old (heap_below (by simpa using heap_new (((w.alloc _).alloc _).alloc _) _) hb (by simp)) _
  have g4 : W.heap[w1.heap.size]? = some (.cells [Value.int .u32 (n32 0x6a09e667), Value.int .u32 (n32 0xbb67ae85), Value.int .u32 (n32 0x3c6ef372), Value.int .u32 (n32 0xa54ff53a), Value.int .u32 (n32 0x510e527f), Value.int .u32 (n32 0x9b05688c), Value.int .u32 (n32 0x1f83d9ab), Value.int .u32 (n32 0x5be0cd19)].toArray 31 (0, 0)) := by
    rw [hW]
    exact heap_new _ _
  have gB : Below w.heap.size w W := by
    rw [hW]
    exact (((((Below.refl _ _).alloc (by simp <;> omega) _).alloc (by simp <;> omega) _).alloc (by simp; omega) _).alloc (by simp; omega) _ |>.trans (hb.mono (by simp; omega))).alloc (by omega) _
  rw [← hW]
  clear hW hb
  go_region_law (refine step_copy_keeps rfl (.tmp 20) (.tmp 21) 58 58 rfl 29 Try.underlying58 (by kernel_rfl) (w.heap.size + 1 + 1 + 1) 0 _ _ _ _ _ rfl rfl [Value.int .u32 0, Value.int .u32 0, Value.int .u32 0, Value.int .u32 0, Value.int .u32 0, Value.int .u32 0, Value.int .u32 0, Value.int .u32 0, Value.int .u32 0, Value.int .u32 0, Value.int .u32 0, Value.int .u32 0, Value.int .u32 0, Value.int .u32 0, Value.int .u32 0, Value.int .u32 0] 32 g3 [Value.int .u32 (n32 h0), Value.int .u32 (n32 h1), Value.int .u32 (n32 h2), Value.int .u32 (n32 h3), Value.int .u32 (n32 h4), Value.int .u32 (n32 h5), Value.int .u32 (n32 h6), Value.int .u32 (n32 h7)] rfl (news_of (w := W.drew) (l := [Value.int .u32 (n32 h0), Value.int .u32 (n32 h1), Value.int .u32 (n32 h2), Value.int .u32 (n32 h3), Value.int .u32 (n32 h4), Value.int .u32 (n32 h5), Value.int .u32 (n32 h6), Value.int .u32 (n32 h7)]) g0) (by simp) (by simp [Value.oneCell']) ?_; intro W2 q3 qK)
  simp only [splice, List.take, List.drop, List.length, List.nil_append, List.cons_append] at q3
  have q0 := qK.heap (w := W.drew) g0 (by omega)
  have q1 := qK.heap (w := W.drew) g1 (by omega)
  have q2 := qK.heap (w := W.drew) g2 (by omega)
  have q4 := qK.heap (w := W.drew) g4 (by omega)
  have qB := gB.drew.trans (qK.below (B := w.heap.size) gB.drew.size (by intro k hk; omega))
  clear g0 g1 g2 g3 g4 gB qK
  go_wp2_with fail
  go_region_law (refine step_copy_keeps rfl (.tmp 23) (.tmp 24) 58 58 rfl 29 Try.underlying58 (by kernel_rfl) (w.heap.size + 1 + 1 + 1) 8 _ _ _ _ _ rfl rfl [Value.int .u32 (n32 h0), Value.int .u32 (n32 h1), Value.int .u32 (n32 h2), Value.int .u32 (n32 h3), Value.int .u32 (n32 h4), Value.int .u32 (n32 h5), Value.int .u32 (n32 h6), Value.int .u32 (n32 h7), Value.int .u32 0, Value.int .u32 0, Value.int .u32 0, Value.int .u32 0, Value.int .u32 0, Value.int .u32 0, Value.int .u32 0, Value.int .u32 0] 32 q3 [Value.int .u32 (n32 0x6a09e667), Value.int .u32 (n32 0xbb67ae85), Value.int .u32 (n32 0x3c6ef372), Value.int .u32 (n32 0xa54ff53a), Value.int .u32 (n32 0x510e527f), Value.int .u32 (n32 0x9b05688c), Value.int .u32 (n32 0x1f83d9ab), Value.int .u32 (n32 0x5be0cd19)] rfl (news_of (w := W2.drew) (l := [Value.int .u32 (n32 0x6a09e667), Value.int .u32 (n32 0xbb67ae85), Value.int .u32 (n32 0x3c6ef372), Value.int .u32 (n32 0xa54ff53a), Value.int .u32 (n32 0x510e527f), Value.int .u32 (n32 0x9b05688c), Value.int .u32 (n32 0x1f83d9ab), Value.int .u32 (n32 0x5be0cd19)]) q4) (by simp) (by simp [Value.oneCell']) ?_; intro W3 g3 qK)
  simp only [splice, List.take, List.drop, List.length, List.nil_append, List.cons_append] at g3
  have g0 := qK.heap (w := W2.drew) q0 (by omega)
  have g1 := qK.heap (w := W2.drew) q1 (by omega)
  have g2 := qK.heap (w := W2.drew) q2 (by omega)
  have gB := qB.drew.trans (qK.below (B := w.heap.size) qB.drew.size (by intro k hk; omega))
  clear q0 q1 q2 q3 q4 qB qK W W2
  have v12 : W3.cell? ⟨w.heap.size + 1 + 1 + 1, 12, none⟩ = some (.int .u32 (n32 0x510e527f)) := by rw [cell_of g3]; rfl
  have v13 : W3.cell? ⟨w.heap.size + 1 + 1 + 1, 13, none⟩ = some (.int .u32 (n32 0x9b05688c)) := by rw [cell_of g3]; rfl
  have v14 : W3.cell? ⟨w.heap.size + 1 + 1 + 1, 14, none⟩ = some (.int .u32 (n32 0x1f83d9ab)) := by rw [cell_of g3]; rfl
  have f12 : W3.frozen? ⟨w.heap.size + 1 + 1 + 1, 12, none⟩ = false := frozen_of g3 _
  have f13 : W3.frozen? ⟨w.heap.size + 1 + 1 + 1, 13, none⟩ = false := frozen_of g3 _
  have f14 : W3.frozen? ⟨w.heap.size + 1 + 1 + 1, 14, none⟩ = false := frozen_of g3 _
  have H0 := Lib.hid g0
  have H1 := Lib.hid g1
  have H2 := Lib.hid g2
  have H3 := Lib.hid g3
  have HB := Lib.hid gB
  clear g0 g1 g2 g3 gB
  cases last
  · go_wp2
    refine wp_gen (CB w w.heap.size (w.heap.size + 1) (w.heap.size + 1 + 1) (w.heap.size + 1 + 1 + 1) [h0, h1, h2, h3, h4, h5, h6, h7] [m0, m1, m2, m3, m4, m5, m6, m7, m8, m9, m10, m11, m12, m13, m14, m15] (v0 [h0, h1, h2, h3, h4, h5, h6, h7] t false)) ?_ ?_
    · exact ⟨heap_set_other (heap_set_other H0.out (by simp <;> omega) _) (by simp <;> omega) _, heap_set_other (heap_set_other H1.out (by simp <;> omega) _) (by simp <;> omega) _, heap_set_other (heap_set_other H2.out (by simp <;> omega) _) (by simp <;> omega) _,
        heap_set (heap_set H3.out _ _) _ _, (HB.out.setCell (by simp; omega) _).setCell (by simp; omega) _⟩
    · intro W4 hCB
      clear c1 c2 v12 v13 v14 f12 f13 f14 H0 H1 H2 H3 HB
      obtain ⟨hs, hhs⟩ : ∃ hs, hs = [h0, h1, h2, h3, h4, h5, h6, h7] := ⟨_, rfl⟩
      obtain ⟨ms, hms⟩ : ∃ ms, ms = [m0, m1, m2, m3, m4, m5, m6, m7, m8, m9, m10, m11, m12, m13, m14, m15] := ⟨_, rfl⟩
      rw [← hhs, ← hms] at hCB
      have Hhs := Lib.hid hhs
      have Hms := Lib.hid hms
      clear hhs hms
      go_loopw [44] (fun k wr => ∃ r : Nat, r ≤ 10 ∧ k = .int .i64 r ∧ CB w w.heap.size (w.heap.size + 1) (w.heap.size + 1 + 1) (w.heap.size + 1 + 1 + 1) hs ms (laps ms (v0 hs t false) r) wr) (fun k _ => 10 - (intOf k).toNat)
      case atStart => exact ⟨0, by omega, rfl, hCB⟩
      case round =>
        obtain ⟨r, hr, rfl, hcb⟩ := hrel
        by_cases hlt : r < 10
        · go_wp2_with (go_at_call 32; (with_reducible refine (schedule_any r _ hlt).mono ?_); rintro e w' ⟨rfl, rfl⟩)
          go_loopw [49] (fun k wr => ∃ i : Nat, i ≤ 8 ∧ k = .int .i64 i ∧ CB w w.heap.size (w.heap.size + 1) (w.heap.size + 1 + 1) (w.heap.size + 1 + 1 + 1) hs ms (lap ms (laps ms (v0 hs t false) r) r i) wr) (fun k _ => 8 - (intOf k).toNat)
          case atStart => exact ⟨0, by omega, rfl, hcb⟩
          case round =>
            obtain ⟨i, hi, rfl, hcb⟩ := hrel
            by_cases hli : i < 8
            · go_wp2_with (go_at_call 33; (with_reducible refine (lane_lit i _ hli).mono ?_); rintro e w2 ⟨rfl, hb2⟩)
              obtain ⟨vs, hvs⟩ : ∃ vs, vs = lap ms (laps ms (v0 hs t false) r) r i := ⟨_, rfl⟩
              rw [← hvs] at hcb
              have Hvs := Lib.hid hvs
              clear hvs
              refine wp_gen (fun W => CB w w.heap.size (w.heap.size + 1) (w.heap.size + 1 + 1) (w.heap.size + 1 + 1 + 1) hs ms vs W ∧ W.heap[w2.heap.size]? = some (.cells #[.int .i64 (laneAt i 0), .int .i64 (laneAt i 1), .int .i64 (laneAt i 2), .int .i64 (laneAt i 3)] 61 (0, 0))) ?_ ?_
              · refine ⟨⟨heap_old (heap_below hcb.h hb2 (lt_of_block hcb.h)) _, heap_old (heap_below hcb.m hb2 (lt_of_block hcb.m)) _, heap_old (heap_below hcb.r hb2 (lt_of_block hcb.r)) _, heap_old (heap_below hcb.v hb2 (lt_of_block hcb.v)) _, ?_⟩, heap_new _ _⟩
                exact (below_then hcb.b hcb.b.size hb2).alloc (by have := hb2.size; have := hcb.b.size; omega) _
              rintro W ⟨hcb', hl⟩
              have hz2 : w.heap.size + 4 ≤ w2.heap.size := by have := lt_of_block hcb.v; have := hb2.size; omega
              have hlt0 := laneAt_lt i 0
              have hlt1 := laneAt_lt i 1
              have hlt2 := laneAt_lt i 2
              have hlt3 := laneAt_lt i 3
              have hmt0 := schedAt_lt r (2 * i)
              have hmt1 := schedAt_lt r (2 * i + 1)
              obtain ⟨hd0, hd1, hd2⟩ := sched_at r (2 * i) hlt (by omega)
              obtain ⟨he0, he1, he2⟩ := sched_at r (2 * i + 1) hlt (by omega)
              have l0 : ∀ x : Ext W.drew, x.v.cell? ⟨w2.heap.size, 0, none⟩ = some (.int .i64 (laneAt i 0)) := fun x => (x.cell _ _ (lt_of_block hl)).trans (by show W.cell? _ = _; rw [cell_of hl]; rfl)
              have l1 : ∀ x : Ext W.drew, x.v.cell? ⟨w2.heap.size, 1, none⟩ = some (.int .i64 (laneAt i 1)) := fun x => (x.cell _ _ (lt_of_block hl)).trans (by show W.cell? _ = _; rw [cell_of hl]; rfl)
              have l2 : ∀ x : Ext W.drew, x.v.cell? ⟨w2.heap.size, 2, none⟩ = some (.int .i64 (laneAt i 2)) := fun x => (x.cell _ _ (lt_of_block hl)).trans (by show W.cell? _ = _; rw [cell_of hl]; rfl)
              have l3 : ∀ x : Ext W.drew, x.v.cell? ⟨w2.heap.size, 3, none⟩ = some (.int .i64 (laneAt i 3)) := fun x => (x.cell _ _ (lt_of_block hl)).trans (by show W.cell? _ = _; rw [cell_of hl]; rfl)
              have hvl : vs.length = 16 := by rw [Hvs.out, length_lap, length_laps, Hhs.out]; rfl
              have hml : ms.length = 16 := by rw [Hms.out]; rfl
              have c0 : ∀ x : Ext W.drew, x.v.cell? ⟨w.heap.size + 1 + 1 + 1, laneAt i 0, none⟩ = some (.int .u32 (n32 (at32 vs (laneAt i 0)))) := fun x => (x.cell _ _ (lt_of_block hcb'.v)).trans (cell_u32 hcb'.v (laneAt i 0) (by omega))
              have c1 : ∀ x : Ext W.drew, x.v.cell? ⟨w.heap.size + 1 + 1 + 1, laneAt i 1, none⟩ = some (.int .u32 (n32 (at32 vs (laneAt i 1)))) := fun x => (x.cell _ _ (lt_of_block hcb'.v)).trans (cell_u32 hcb'.v (laneAt i 1) (by omega))
              have c2 : ∀ x : Ext W.drew, x.v.cell? ⟨w.heap.size + 1 + 1 + 1, laneAt i 2, none⟩ = some (.int .u32 (n32 (at32 vs (laneAt i 2)))) := fun x => (x.cell _ _ (lt_of_block hcb'.v)).trans (cell_u32 hcb'.v (laneAt i 2) (by omega))
              have c3 : ∀ x : Ext W.drew, x.v.cell? ⟨w.heap.size + 1 + 1 + 1, laneAt i 3, none⟩ = some (.int .u32 (n32 (at32 vs (laneAt i 3)))) := fun x => (x.cell _ _ (lt_of_block hcb'.v)).trans (cell_u32 hcb'.v (laneAt i 3) (by omega))
              have k0 : ∀ x : Ext W.drew, x.v.cell? ⟨w.heap.size + 1, schedAt r (2 * i), none⟩ = some (.int .u32 (n32 (at32 ms (schedAt r (2 * i))))) := fun x => (x.cell _ _ (lt_of_block hcb'.m)).trans (cell_u32 hcb'.m (schedAt r (2 * i)) (by omega))
              have k1 : ∀ x : Ext W.drew, x.v.cell? ⟨w.heap.size + 1, schedAt r (2 * i + 1), none⟩ = some (.int .u32 (n32 (at32 ms (schedAt r (2 * i + 1))))) := fun x => (x.cell _ _ (lt_of_block hcb'.m)).trans (cell_u32 hcb'.m (schedAt r (2 * i + 1)) (by omega))
              have hI0 : ((laneAt i 0 : Nat) : Int) < 16 := by omega
              have hI1 : ((laneAt i 1 : Nat) : Int) < 16 := by omega
              have hI2 : ((laneAt i 2 : Nat) : Int) < 16 := by omega
              have hI3 : ((laneAt i 3 : Nat) : Int) < 16 := by omega
              have hJ0 : ((schedAt r (2 * i) : Nat) : Int) < 16 := by omega
              have hJ1 : ((schedAt r (2 * i + 1) : Nat) : Int) < 16 := by omega
              have hw0 : IntKind.i64.wrap (2 * (i : Int)) = 2 * (i : Int) := IntWalk.i64_in _ (by omega)
              have hw1 : IntKind.i64.wrap (2 * (i : Int) + 1) = 2 * (i : Int) + 1 := IntWalk.i64_in _ (by omega)
              have hp0 : 0 ≤ 2 * (i : Int) := by omega
              have hp1 : 0 ≤ 2 * (i : Int) + 1 := by omega
              have hq0 : 2 * (i : Int) < ((schedStr r).size : Int) := by omega
              have hq1 : 2 * (i : Int) + 1 < ((schedStr r).size : Int) := by omega
              have ht0 : (2 * (i : Int)).toNat = 2 * i := by omega
              have ht1 : (2 * (i : Int) + 1).toNat = 2 * i + 1 := by omega
              have hsz := lt_of_block hl
              refine wp_region_alloc 33 15 30 #[.int .u32 0, .int .u32 0, .int .u32 0, .int .u32 0] (by kernel_rfl) (by kernel_rfl) rfl rfl rfl (by kernel_rfl) (by simp) (fun a w => by go_simp) ?_
              iterate 21 (refine wpX_step (fun K hK => ?_); go_simp; refine hK _ ?_; clear hK K)
              refine wpX_step (fun K hK => ?_)
              go_simp
              refine ⟨_, fun x => digit_at r (2 * i) hlt (by omega) hd0 x.v, hK _ ?_⟩
              clear hK K
              iterate 7 (refine wpX_step (fun K hK => ?_); go_simp; refine hK _ ?_; clear hK K)
              refine wpX_step (fun K hK => ?_)
              go_simp
              refine ⟨_, fun x => digit_at r (2 * i + 1) hlt (by omega) he0 x.v, hK _ ?_⟩
              clear hK K
              iterate 2 (refine wpX_step (fun K hK => ?_); go_simp; refine hK _ ?_; clear hK K)
              refine wpX_step (fun K hK => ?_)
              go_simp
              refine ⟨_, fun x => mix_lit _ _ _ _ _ _ x.v, hK _ ?_⟩
              clear hK K
              refine wpX_step (fun K hK => ?_)
              go_simp
              intro xv
              refine hK _ ?_
              clear hK K
              refine wpX_nil ?_
              intro X b hbb hbz hbe
              have he : xv = .pointer (some ⟨b, 0, none⟩) := hbe
              subst he
              clear hbe l0 l1 l2 l3 c0 c1 c2 c3 k0 k1
              obtain ⟨q, hq⟩ : ∃ q, q = mix (at32 vs (laneAt i 0)) (at32 vs (laneAt i 1)) (at32 vs (laneAt i 2)) (at32 vs (laneAt i 3)) (at32 ms (schedAt r (2 * i))) (at32 ms (schedAt r (2 * i + 1))) := ⟨_, rfl⟩
              rw [← hq]
              have Hq := Lib.hid hq
              clear hq
              have hXl : X.v.heap[w2.heap.size]? = some (.cells #[.int .i64 (laneAt i 0), .int .i64 (laneAt i 1), .int .i64 (laneAt i 2), .int .i64 (laneAt i 3)] 61 (0, 0)) := (X.heap _ (lt_of_block hl)).trans hl
              have hXc : CB w w.heap.size (w.heap.size + 1) (w.heap.size + 1 + 1) (w.heap.size + 1 + 1 + 1) hs ms vs X.v :=
                ⟨(X.heap _ (lt_of_block hcb'.h)).trans hcb'.h, (X.heap _ (lt_of_block hcb'.m)).trans hcb'.m, (X.heap _ (lt_of_block hcb'.r)).trans hcb'.r, (X.heap _ (lt_of_block hcb'.v)).trans hcb'.v, below_then hcb'.b hcb'.b.size (w2 := X.v) (below_undrew X.below)⟩
              have hbv := lt_of_block hcb'.v
              generalize X.v = V at hbz hXl hXc ⊢
              clear hcb hcb' hl
              have z0 : V.cell? ⟨b, 0, none⟩ = some (.int .u32 0) := by rw [cell_of hbz]; rfl
              have z1 : V.cell? ⟨b, 1, none⟩ = some (.int .u32 0) := by rw [cell_of hbz]; rfl
              have z2 : V.cell? ⟨b, 2, none⟩ = some (.int .u32 0) := by rw [cell_of hbz]; rfl
              have z3 : V.cell? ⟨b, 3, none⟩ = some (.int .u32 0) := by rw [cell_of hbz]; rfl
              have y0 : V.frozen? ⟨b, 0, none⟩ = false := frozen_of hbz _
              have y1 : V.frozen? ⟨b, 1, none⟩ = false := frozen_of hbz _
              have y2 : V.frozen? ⟨b, 2, none⟩ = false := frozen_of hbz _
              have y3 : V.frozen? ⟨b, 3, none⟩ = false := frozen_of hbz _
              have l0 : V.cell? ⟨w2.heap.size, 0, none⟩ = some (.int .i64 (laneAt i 0)) := by rw [cell_of hXl]; rfl
              have l1 : V.cell? ⟨w2.heap.size, 1, none⟩ = some (.int .i64 (laneAt i 1)) := by rw [cell_of hXl]; rfl
              have l2 : V.cell? ⟨w2.heap.size, 2, none⟩ = some (.int .i64 (laneAt i 2)) := by rw [cell_of hXl]; rfl
              have l3 : V.cell? ⟨w2.heap.size, 3, none⟩ = some (.int .i64 (laneAt i 3)) := by rw [cell_of hXl]; rfl
              have Hbz := Lib.hid hbz
              have HXl := Lib.hid hXl
              have HXc := Lib.hid hXc
              clear hbz hXl hXc
              have hne : b ≠ w2.heap.size := by omega
              go_wp2
              refine wp_gen (fun W => CB w w.heap.size (w.heap.size + 1) (w.heap.size + 1 + 1) (w.heap.size + 1 + 1 + 1) hs ms vs W ∧ W.heap[b]? = some (.cells #[.int .u32 (n32 q.a), .int .u32 (n32 q.b), .int .u32 (n32 q.c), .int .u32 (n32 q.d)] 30 (0, 0))) ?_ ?_
              · refine ⟨⟨heap_set_other (heap_set_other (heap_set_other (heap_set_other HXc.out.h (by simp <;> omega) _) (by simp <;> omega) _) (by simp <;> omega) _) (by simp <;> omega) _,
                  heap_set_other (heap_set_other (heap_set_other (heap_set_other HXc.out.m (by simp <;> omega) _) (by simp <;> omega) _) (by simp <;> omega) _) (by simp <;> omega) _,
                  heap_set_other (heap_set_other (heap_set_other (heap_set_other HXc.out.r (by simp <;> omega) _) (by simp <;> omega) _) (by simp <;> omega) _) (by simp <;> omega) _,
                  heap_set_other (heap_set_other (heap_set_other (heap_set_other HXc.out.v (by simp <;> omega) _) (by simp <;> omega) _) (by simp <;> omega) _) (by simp <;> omega) _, ?_⟩, heap_set (heap_set (heap_set (heap_set Hbz.out _ _) _ _) _ _) _ _⟩
                exact (((HXc.out.b.setCell (by simp <;> omega) _).setCell (by simp <;> omega) _).setCell (by simp <;> omega) _).setCell (by simp <;> omega) _
              clear z0 z1 z2 z3 y0 y1 y2 y3 l0 l1 l2 l3 Hbz HXl HXc V
              rintro V ⟨hcb3, hb3⟩
              go_loopw [88] (fun k wr => ∃ j : Nat, j ≤ 4 ∧ k = .int .i64 j ∧ CB w w.heap.size (w.heap.size + 1) (w.heap.size + 1 + 1) (w.heap.size + 1 + 1 + 1) hs ms (setN vs i q j) wr ∧ wr.heap[b]? = some (.cells #[.int .u32 (n32 q.a), .int .u32 (n32 q.b), .int .u32 (n32 q.c), .int .u32 (n32 q.d)] 30 (0, 0))) (fun k _ => 4 - (intOf k).toNat)
              case atStart => exact ⟨0, by omega, rfl, hcb3, hb3⟩
              case round =>
                obtain ⟨j, hj, rfl, hcb4, hb4⟩ := hrel
                by_cases hlj : j < 4
                · have hix := fun w => run_index_one (P := Try.prog) Try.underlying61 (fun w => by kernel_rfl) (by kernel_rfl) j hlj (.int .i64 (laneAt i j)) (lane4 i j hlj) w
                  have hcw : wr.cell? ⟨b, j, none⟩ = some (.int .u32 (n32 (q.at j))) := by rw [cell_of hb4]; exact quad4 q j hlj
                  have hlj2 := laneAt_lt i j
                  have hlj3 : ((laneAt i j : Nat) : Int) < 16 := by omega
                  have hcv := cell_u32 hcb4.v (laneAt i j) (by rw [length_setN]; omega)
                  have hfv : wr.frozen? ⟨w.heap.size + 1 + 1 + 1, laneAt i j, none⟩ = false := frozen_of hcb4.v _
                  have Hcb4 := Lib.hid hcb4
                  have Hb4 := Lib.hid hb4
                  clear hcb4 hb4
                  go_wp2
                  go_roundw
                  case rel =>
                    refine ⟨j + 1, by omega, by go_num, ⟨heap_set_other Hcb4.out.h (by simp <;> omega) _, heap_set_other Hcb4.out.m (by simp <;> omega) _, heap_set_other Hcb4.out.r (by simp <;> omega) _, ?_, Hcb4.out.b.setCell (by simp <;> omega) _⟩, heap_set_other Hb4.out (by simp <;> omega) _⟩
                    have h1 := heap_set Hcb4.out.v (laneAt i j) (.int .u32 (n32 (q.at j)))
                    rw [u32s_set] at h1
                    exact h1
                  case measure => simp [intOf]; omega
                · obtain rfl : j = 4 := by omega
                  have Hcb4 := Lib.hid hcb4
                  clear hcb4 hb4
                  go_wp2
                  go_roundw
                  case rel =>
                    refine ⟨i + 1, by omega, by go_num, ?_⟩
                    have h1 := Hcb4.out
                    rw [setN_four, Hq.out, Hvs.out] at h1
                    exact h1
                  case measure => simp [intOf]; omega
            · obtain rfl : i = 8 := by omega
              have Hcb := Lib.hid hcb
              clear hcb
              go_wp2
              go_roundw
              case rel => exact ⟨r + 1, by omega, by go_num, Hcb.out⟩
              case measure => simp [intOf]; omega
        · obtain ⟨vs, hvs⟩ : ∃ vs, vs = laps ms (v0 hs t false) r := ⟨_, rfl⟩
          have Hr : Hid (r = 10) := Lib.hid (by omega)
          rw [← hvs] at hcb
          have Hvs := Lib.hid hvs
          have Hcb := Lib.hid hcb
          clear hcb hvs
          go_wp2
          go_loopw [100] (fun k wr => ∃ j : Nat, j ≤ 8 ∧ k = .int .i64 j ∧ CB w w.heap.size (w.heap.size + 1) (w.heap.size + 1 + 1) (w.heap.size + 1 + 1 + 1) (finN hs vs j) ms vs wr) (fun k _ => 8 - (intOf k).toNat)
          case atStart => exact ⟨0, by omega, rfl, Hcb.out⟩
          case round =>
            obtain ⟨j, hj, rfl, hcb4⟩ := hrel
            by_cases hlj : j < 8
            · have hvl : vs.length = 16 := by rw [Hvs.out, length_laps, Hhs.out]; rfl
              have hhl : (finN hs vs j).length = 8 := by rw [length_finN, Hhs.out]; rfl
              have k0 : ∀ x : Ext wr.drew, x.v.cell? ⟨w.heap.size, j, none⟩ = some (.int .u32 (n32 (at32 (finN hs vs j) j))) := fun x => (x.cell _ _ (lt_of_block hcb4.h)).trans (cell_u32 hcb4.h j (by omega))
              have k1 : ∀ x : Ext wr.drew, x.v.cell? ⟨w.heap.size + 1 + 1 + 1, j, none⟩ = some (.int .u32 (n32 (at32 vs j))) := fun x => (x.cell _ _ (lt_of_block hcb4.v)).trans (cell_u32 hcb4.v j (by omega))
              have k2 : ∀ x : Ext wr.drew, x.v.cell? ⟨w.heap.size + 1 + 1 + 1, j + 8, none⟩ = some (.int .u32 (n32 (at32 vs (j + 8)))) := fun x => (x.cell _ _ (lt_of_block hcb4.v)).trans (cell_u32 hcb4.v (j + 8) (by omega))
              have b0 : (j : Int) < 8 := by omega
              have b1 : (j : Int) < 16 := by omega
              have b2 : (j : Int) + 8 < 16 := by omega
              have b3 : IntKind.i64.wrap ((j : Int) + 8) = (j : Int) + 8 := IntWalk.i64_in _ (by omega)
              have b4 : ((j : Int) + 8).toNat = j + 8 := by omega
              have b5 : 0 ≤ (j : Int) + 8 := by omega
              have Hcb4 := Lib.hid hcb4
              clear hcb4
              go_wp2
              refine wp_region_ext 13 (by kernel_rfl) (by kernel_rfl) ?_
              iterate 13 (refine wpX_step (fun K hK => ?_); go_simp; refine hK _ ?_; clear hK K)
              refine wpX_nil ?_
              intro X
              have hx := Hcb4.out
              have hXc : CB w w.heap.size (w.heap.size + 1) (w.heap.size + 1 + 1) (w.heap.size + 1 + 1 + 1) (finN hs vs j) ms vs X.v :=
                ⟨(X.heap _ (lt_of_block hx.h)).trans hx.h, (X.heap _ (lt_of_block hx.m)).trans hx.m, (X.heap _ (lt_of_block hx.r)).trans hx.r, (X.heap _ (lt_of_block hx.v)).trans hx.v, below_then hx.b hx.b.size (w2 := X.v) (below_undrew X.below)⟩
              clear k0 k1 k2 hx Hcb4
              generalize X.v = V at hXc ⊢
              have k0 := cell_u32 hXc.h j (by omega)
              have f0 : V.frozen? ⟨w.heap.size, j, none⟩ = false := frozen_of hXc.h _
              have HXc := Lib.hid hXc
              clear hXc
              go_wp2
              go_roundw
              case rel =>
                refine ⟨j + 1, by omega, by go_num, ⟨?_, heap_set_other HXc.out.m (by simp <;> omega) _, heap_set_other HXc.out.r (by simp <;> omega) _, heap_set_other HXc.out.v (by simp <;> omega) _, HXc.out.b.setCell (by simp <;> omega) _⟩⟩
                have h1 := heap_set HXc.out.h j (.int .u32 (n32 (at32 (finN hs vs j) j ^^^ (at32 vs j ^^^ at32 vs (j + 8)))))
                rw [u32s_set] at h1
                exact h1
              case measure => simp [intOf]; omega
            · obtain rfl : j = 8 := by omega
              have hfin : finN hs vs 8 = compress hs ms t false := by rw [Hhs.out, finN_eight]; unfold compress; rw [← Hhs.out, ← Hr.out, ← Hvs.out]
              rw [hfin] at hcb4
              obtain ⟨e0, e1, e2, e3, e4, e5, e6, e7, hes⟩ := list8 (length_compress hs ms t false)
              rw [hes] at hcb4
              have HR2 : R = .agg #[.int .u32 (n32 e0), .int .u32 (n32 e1), .int .u32 (n32 e2), .int .u32 (n32 e3), .int .u32 (n32 e4), .int .u32 (n32 e5), .int .u32 (n32 e6), .int .u32 (n32 e7)] := by
                rw [← HR.out, ← Hhs.out, ← Hms.out, hes]
                rfl
              have hh8 : wr.heap[w.heap.size]? = some (.cells #[.int .u32 (n32 e0), .int .u32 (n32 e1), .int .u32 (n32 e2), .int .u32 (n32 e3), .int .u32 (n32 e4), .int .u32 (n32 e5), .int .u32 (n32 e6), .int .u32 (n32 e7)] 31 (0, 0)) := hcb4.h
              have hr8 := hcb4.r
              have hone : (#[.int .u32 (n32 e0), .int .u32 (n32 e1), .int .u32 (n32 e2), .int .u32 (n32 e3), .int .u32 (n32 e4), .int .u32 (n32 e5), .int .u32 (n32 e6), .int .u32 (n32 e7)] : Array Value).all (·.oneCell') = true := by simp [Value.oneCell']
              have HBw := Lib.hid hcb4.b
              clear hcb4 hfin hes
              go_wp2_with (first | (refine wpList_load_row rfl 31 _ rfl w.heap.size rfl 31 _ _ _ hh8 Try.underlying31 rfl (by kernel_rfl) ?_) | (refine wpList_store_row rfl 31 _ _ rfl (w.heap.size + 1 + 1) #[.int .u32 (n32 e0), .int .u32 (n32 e1), .int .u32 (n32 e2), .int .u32 (n32 e3), .int .u32 (n32 e4), .int .u32 (n32 e5), .int .u32 (n32 e6), .int .u32 (n32 e7)] rfl rfl 31 _ hr8 (by kernel_rfl) rfl hone ?_))
              (try simp only [Exit.inBlock, Exit.then])
              refine bodyPost_ret (results_cell_row rfl _ _ (w.heap.size + 1 + 1) 31 #[.int .u32 (n32 e0), .int .u32 (n32 e1), .int .u32 (n32 e2), .int .u32 (n32 e3), .int .u32 (n32 e4), .int .u32 (n32 e5), .int .u32 (n32 e6), .int .u32 (n32 e7)] (0, 0) _ rfl (setRow_heap _ _ _ _ _ _ hr8) Try.underlying31 rfl (by kernel_rfl)) rfl ?_
              exact ⟨by rw [HR2], below_setRow HBw.out (by omega) _⟩
  · go_wp2
    refine wp_gen (CB w w.heap.size (w.heap.size + 1) (w.heap.size + 1 + 1) (w.heap.size + 1 + 1 + 1) [h0, h1, h2, h3, h4, h5, h6, h7] [m0, m1, m2, m3, m4, m5, m6, m7, m8, m9, m10, m11, m12, m13, m14, m15] (v0 [h0, h1, h2, h3, h4, h5, h6, h7] t true)) ?_ ?_
    · exact ⟨heap_set_other (heap_set_other (heap_set_other H0.out (by simp <;> omega) _) (by simp <;> omega) _) (by simp <;> omega) _, heap_set_other (heap_set_other (heap_set_other H1.out (by simp <;> omega) _) (by simp <;> omega) _) (by simp <;> omega) _, heap_set_other (heap_set_other (heap_set_other H2.out (by simp <;> omega) _) (by simp <;> omega) _) (by simp <;> omega) _,
        heap_set (heap_set (heap_set H3.out _ _) _ _) _ _, ((HB.out.setCell (by simp; omega) _).setCell (by simp; omega) _).setCell (by simp; omega) _⟩
    · intro W4 hCB
      clear c1 c2 v12 v13 v14 f12 f13 f14 H0 H1 H2 H3 HB
      obtain ⟨hs, hhs⟩ : ∃ hs, hs = [h0, h1, h2, h3, h4, h5, h6, h7] := ⟨_, rfl⟩
      obtain ⟨ms, hms⟩ : ∃ ms, ms = [m0, m1, m2, m3, m4, m5, m6, m7, m8, m9, m10, m11, m12, m13, m14, m15] := ⟨_, rfl⟩
      rw [← hhs, ← hms] at hCB
      have Hhs := Lib.hid hhs
      have Hms := Lib.hid hms
      clear hhs hms
      go_loopw [44] (fun k wr => ∃ r : Nat, r ≤ 10 ∧ k = .int .i64 r ∧ CB w w.heap.size (w.heap.size + 1) (w.heap.size + 1 + 1) (w.heap.size + 1 + 1 + 1) hs ms (laps ms (v0 hs t true) r) wr) (fun k _ => 10 - (intOf k).toNat)
      case atStart => exact ⟨0, by omega, rfl, hCB⟩
      case round =>
        obtain ⟨r, hr, rfl, hcb⟩ := hrel
        by_cases hlt : r < 10
        · go_wp2_with (go_at_call 32; (with_reducible refine (schedule_any r _ hlt).mono ?_); rintro e w' ⟨rfl, rfl⟩)
          go_loopw [49] (fun k wr => ∃ i : Nat, i ≤ 8 ∧ k = .int .i64 i ∧ CB w w.heap.size (w.heap.size + 1) (w.heap.size + 1 + 1) (w.heap.size + 1 + 1 + 1) hs ms (lap ms (laps ms (v0 hs t true) r) r i) wr) (fun k _ => 8 - (intOf k).toNat)
          case atStart => exact ⟨0, by omega, rfl, hcb⟩
          case round =>
            obtain ⟨i, hi, rfl, hcb⟩ := hrel
            by_cases hli : i < 8
            · go_wp2_with (go_at_call 33; (with_reducible refine (lane_lit i _ hli).mono ?_); rintro e w2 ⟨rfl, hb2⟩)
              obtain ⟨vs, hvs⟩ : ∃ vs, vs = lap ms (laps ms (v0 hs t true) r) r i := ⟨_, rfl⟩
              rw [← hvs] at hcb
              have Hvs := Lib.hid hvs
              clear hvs
              refine wp_gen (fun W => CB w w.heap.size (w.heap.size + 1) (w.heap.size + 1 + 1) (w.heap.size + 1 + 1 + 1) hs ms vs W ∧ W.heap[w2.heap.size]? = some (.cells #[.int .i64 (laneAt i 0), .int .i64 (laneAt i 1), .int .i64 (laneAt i 2), .int .i64 (laneAt i 3)] 61 (0, 0))) ?_ ?_
              · refine ⟨⟨heap_old (heap_below hcb.h hb2 (lt_of_block hcb.h)) _, heap_old (heap_below hcb.m hb2 (lt_of_block hcb.m)) _, heap_old (heap_below hcb.r hb2 (lt_of_block hcb.r)) _, heap_old (heap_below hcb.v hb2 (lt_of_block hcb.v)) _, ?_⟩, heap_new _ _⟩
                exact (below_then hcb.b hcb.b.size hb2).alloc (by have := hb2.size; have := hcb.b.size; omega) _
              rintro W ⟨hcb', hl⟩
              have hz2 : w.heap.size + 4 ≤ w2.heap.size := by have := lt_of_block hcb.v; have := hb2.size; omega
              have hlt0 := laneAt_lt i 0
              have hlt1 := laneAt_lt i 1
              have hlt2 := laneAt_lt i 2
              have hlt3 := laneAt_lt i 3
              have hmt0 := schedAt_lt r (2 * i)
              have hmt1 := schedAt_lt r (2 * i + 1)
              obtain ⟨hd0, hd1, hd2⟩ := sched_at r (2 * i) hlt (by omega)
              obtain ⟨he0, he1, he2⟩ := sched_at r (2 * i + 1) hlt (by omega)
              have l0 : ∀ x : Ext W.drew, x.v.cell? ⟨w2.heap.size, 0, none⟩ = some (.int .i64 (laneAt i 0)) := fun x => (x.cell _ _ (lt_of_block hl)).trans (by show W.cell? _ = _; rw [cell_of hl]; rfl)
              have l1 : ∀ x : Ext W.drew, x.v.cell? ⟨w2.heap.size, 1, none⟩ = some (.int .i64 (laneAt i 1)) := fun x => (x.cell _ _ (lt_of_block hl)).trans (by show W.cell? _ = _; rw [cell_of hl]; rfl)
              have l2 : ∀ x : Ext W.drew, x.v.cell? ⟨w2.heap.size, 2, none⟩ = some (.int .i64 (laneAt i 2)) := fun x => (x.cell _ _ (lt_of_block hl)).trans (by show W.cell? _ = _; rw [cell_of hl]; rfl)
              have l3 : ∀ x : Ext W.drew, x.v.cell? ⟨w2.heap.size, 3, none⟩ = some (.int .i64 (laneAt i 3)) := fun x => (x.cell _ _ (lt_of_block hl)).trans (by show W.cell? _ = _; rw [cell_of hl]; rfl)
              have hvl : vs.length = 16 := by rw [Hvs.out, length_lap, length_laps, Hhs.out]; rfl
              have hml : ms.length = 16 := by rw [Hms.out]; rfl
              have c0 : ∀ x : Ext W.drew, x.v.cell? ⟨w.heap.size + 1 + 1 + 1, laneAt i 0, none⟩ = some (.int .u32 (n32 (at32 vs (laneAt i 0)))) := fun x => (x.cell _ _ (lt_of_block hcb'.v)).trans (cell_u32 hcb'.v (laneAt i 0) (by omega))
              have c1 : ∀ x : Ext W.drew, x.v.cell? ⟨w.heap.size + 1 + 1 + 1, laneAt i 1, none⟩ = some (.int .u32 (n32 (at32 vs (laneAt i 1)))) := fun x => (x.cell _ _ (lt_of_block hcb'.v)).trans (cell_u32 hcb'.v (laneAt i 1) (by omega))
              have c2 : ∀ x : Ext W.drew, x.v.cell? ⟨w.heap.size + 1 + 1 + 1, laneAt i 2, none⟩ = some (.int .u32 (n32 (at32 vs (laneAt i 2)))) := fun x => (x.cell _ _ (lt_of_block hcb'.v)).trans (cell_u32 hcb'.v (laneAt i 2) (by omega))
              have c3 : ∀ x : Ext W.drew, x.v.cell? ⟨w.heap.size + 1 + 1 + 1, laneAt i 3, none⟩ = some (.int .u32 (n32 (at32 vs (laneAt i 3)))) := fun x => (x.cell _ _ (lt_of_block hcb'.v)).trans (cell_u32 hcb'.v (laneAt i 3) (by omega))
              have k0 : ∀ x : Ext W.drew, x.v.cell? ⟨w.heap.size + 1, schedAt r (2 * i), none⟩ = some (.int .u32 (n32 (at32 ms (schedAt r (2 * i))))) := fun x => (x.cell _ _ (lt_of_block hcb'.m)).trans (cell_u32 hcb'.m (schedAt r (2 * i)) (by omega))
              have k1 : ∀ x : Ext W.drew, x.v.cell? ⟨w.heap.size + 1, schedAt r (2 * i + 1), none⟩ = some (.int .u32 (n32 (at32 ms (schedAt r (2 * i + 1))))) := fun x => (x.cell _ _ (lt_of_block hcb'.m)).trans (cell_u32 hcb'.m (schedAt r (2 * i + 1)) (by omega))
              have hI0 : ((laneAt i 0 : Nat) : Int) < 16 := by omega
              have hI1 : ((laneAt i 1 : Nat) : Int) < 16 := by omega
              have hI2 : ((laneAt i 2 : Nat) : Int) < 16 := by omega
              have hI3 : ((laneAt i 3 : Nat) : Int) < 16 := by omega
              have hJ0 : ((schedAt r (2 * i) : Nat) : Int) < 16 := by omega
              have hJ1 : ((schedAt r (2 * i + 1) : Nat) : Int) < 16 := by omega
              have hw0 : IntKind.i64.wrap (2 * (i : Int)) = 2 * (i : Int) := IntWalk.i64_in _ (by omega)
              have hw1 : IntKind.i64.wrap (2 * (i : Int) + 1) = 2 * (i : Int) + 1 := IntWalk.i64_in _ (by omega)
              have hp0 : 0 ≤ 2 * (i : Int) := by omega
              have hp1 : 0 ≤ 2 * (i : Int) + 1 := by omega
              have hq0 : 2 * (i : Int) < ((schedStr r).size : Int) := by omega
              have hq1 : 2 * (i : Int) + 1 < ((schedStr r).size : Int) := by omega
              have ht0 : (2 * (i : Int)).toNat = 2 * i := by omega
              have ht1 : (2 * (i : Int) + 1).toNat = 2 * i + 1 := by omega
              have hsz := lt_of_block hl
              refine wp_region_alloc 33 15 30 #[.int .u32 0, .int .u32 0, .int .u32 0, .int .u32 0] (by kernel_rfl) (by kernel_rfl) rfl rfl rfl (by kernel_rfl) (by simp) (fun a w => by go_simp) ?_
              iterate 21 (refine wpX_step (fun K hK => ?_); go_simp; refine hK _ ?_; clear hK K)
              refine wpX_step (fun K hK => ?_)
              go_simp
              refine ⟨_, fun x => digit_at r (2 * i) hlt (by omega) hd0 x.v, hK _ ?_⟩
              clear hK K
              iterate 7 (refine wpX_step (fun K hK => ?_); go_simp; refine hK _ ?_; clear hK K)
              refine wpX_step (fun K hK => ?_)
              go_simp
              refine ⟨_, fun x => digit_at r (2 * i + 1) hlt (by omega) he0 x.v, hK _ ?_⟩
              clear hK K
              iterate 2 (refine wpX_step (fun K hK => ?_); go_simp; refine hK _ ?_; clear hK K)
              refine wpX_step (fun K hK => ?_)
              go_simp
              refine ⟨_, fun x => mix_lit _ _ _ _ _ _ x.v, hK _ ?_⟩
              clear hK K
              refine wpX_step (fun K hK => ?_)
              go_simp
              intro xv
              refine hK _ ?_
              clear hK K
              refine wpX_nil ?_
              intro X b hbb hbz hbe
              have he : xv = .pointer (some ⟨b, 0, none⟩) := hbe
              subst he
              clear hbe l0 l1 l2 l3 c0 c1 c2 c3 k0 k1
              obtain ⟨q, hq⟩ : ∃ q, q = mix (at32 vs (laneAt i 0)) (at32 vs (laneAt i 1)) (at32 vs (laneAt i 2)) (at32 vs (laneAt i 3)) (at32 ms (schedAt r (2 * i))) (at32 ms (schedAt r (2 * i + 1))) := ⟨_, rfl⟩
              rw [← hq]
              have Hq := Lib.hid hq
              clear hq
              have hXl : X.v.heap[w2.heap.size]? = some (.cells #[.int .i64 (laneAt i 0), .int .i64 (laneAt i 1), .int .i64 (laneAt i 2), .int .i64 (laneAt i 3)] 61 (0, 0)) := (X.heap _ (lt_of_block hl)).trans hl
              have hXc : CB w w.heap.size (w.heap.size + 1) (w.heap.size + 1 + 1) (w.heap.size + 1 + 1 + 1) hs ms vs X.v :=
                ⟨(X.heap _ (lt_of_block hcb'.h)).trans hcb'.h, (X.heap _ (lt_of_block hcb'.m)).trans hcb'.m, (X.heap _ (lt_of_block hcb'.r)).trans hcb'.r, (X.heap _ (lt_of_block hcb'.v)).trans hcb'.v, below_then hcb'.b hcb'.b.size (w2 := X.v) (below_undrew X.below)⟩
              have hbv := lt_of_block hcb'.v
              generalize X.v = V at hbz hXl hXc ⊢
              clear hcb hcb' hl
              have z0 : V.cell? ⟨b, 0, none⟩ = some (.int .u32 0) := by rw [cell_of hbz]; rfl
              have z1 : V.cell? ⟨b, 1, none⟩ = some (.int .u32 0) := by rw [cell_of hbz]; rfl
              have z2 : V.cell? ⟨b, 2, none⟩ = some (.int .u32 0) := by rw [cell_of hbz]; rfl
              have z3 : V.cell? ⟨b, 3, none⟩ = some (.int .u32 0) := by rw [cell_of hbz]; rfl
              have y0 : V.frozen? ⟨b, 0, none⟩ = false := frozen_of hbz _
              have y1 : V.frozen? ⟨b, 1, none⟩ = false := frozen_of hbz _
              have y2 : V.frozen? ⟨b, 2, none⟩ = false := frozen_of hbz _
              have y3 : V.frozen? ⟨b, 3, none⟩ = false := frozen_of hbz _
              have l0 : V.cell? ⟨w2.heap.size, 0, none⟩ = some (.int .i64 (laneAt i 0)) := by rw [cell_of hXl]; rfl
              have l1 : V.cell? ⟨w2.heap.size, 1, none⟩ = some (.int .i64 (laneAt i 1)) := by rw [cell_of hXl]; rfl
              have l2 : V.cell? ⟨w2.heap.size, 2, none⟩ = some (.int .i64 (laneAt i 2)) := by rw [cell_of hXl]; rfl
              have l3 : V.cell? ⟨w2.heap.size, 3, none⟩ = some (.int .i64 (laneAt i 3)) := by rw [cell_of hXl]; rfl
              have Hbz := Lib.hid hbz
              have HXl := Lib.hid hXl
              have HXc := Lib.hid hXc
              clear hbz hXl hXc
              have hne : b ≠ w2.heap.size := by omega
              go_wp2
              refine wp_gen (fun W => CB w w.heap.size (w.heap.size + 1) (w.heap.size + 1 + 1) (w.heap.size + 1 + 1 + 1) hs ms vs W ∧ W.heap[b]? = some (.cells #[.int .u32 (n32 q.a), .int .u32 (n32 q.b), .int .u32 (n32 q.c), .int .u32 (n32 q.d)] 30 (0, 0))) ?_ ?_
              · refine ⟨⟨heap_set_other (heap_set_other (heap_set_other (heap_set_other HXc.out.h (by simp <;> omega) _) (by simp <;> omega) _) (by simp <;> omega) _) (by simp <;> omega) _,
                  heap_set_other (heap_set_other (heap_set_other (heap_set_other HXc.out.m (by simp <;> omega) _) (by simp <;> omega) _) (by simp <;> omega) _) (by simp <;> omega) _,
                  heap_set_other (heap_set_other (heap_set_other (heap_set_other HXc.out.r (by simp <;> omega) _) (by simp <;> omega) _) (by simp <;> omega) _) (by simp <;> omega) _,
                  heap_set_other (heap_set_other (heap_set_other (heap_set_other HXc.out.v (by simp <;> omega) _) (by simp <;> omega) _) (by simp <;> omega) _) (by simp <;> omega) _, ?_⟩, heap_set (heap_set (heap_set (heap_set Hbz.out _ _) _ _) _ _) _ _⟩
                exact (((HXc.out.b.setCell (by simp <;> omega) _).setCell (by simp <;> omega) _).setCell (by simp <;> omega) _).setCell (by simp <;> omega) _
              clear z0 z1 z2 z3 y0 y1 y2 y3 l0 l1 l2 l3 Hbz HXl HXc V
              rintro V ⟨hcb3, hb3⟩
              go_loopw [88] (fun k wr => ∃ j : Nat, j ≤ 4 ∧ k = .int .i64 j ∧ CB w w.heap.size (w.heap.size + 1) (w.heap.size + 1 + 1) (w.heap.size + 1 + 1 + 1) hs ms (setN vs i q j) wr ∧ wr.heap[b]? = some (.cells #[.int .u32 (n32 q.a), .int .u32 (n32 q.b), .int .u32 (n32 q.c), .int .u32 (n32 q.d)] 30 (0, 0))) (fun k _ => 4 - (intOf k).toNat)
              case atStart => exact ⟨0, by omega, rfl, hcb3, hb3⟩
              case round =>
                obtain ⟨j, hj, rfl, hcb4, hb4⟩ := hrel
                by_cases hlj : j < 4
                · have hix := fun w => run_index_one (P := Try.prog) Try.underlying61 (fun w => by kernel_rfl) (by kernel_rfl) j hlj (.int .i64 (laneAt i j)) (lane4 i j hlj) w
                  have hcw : wr.cell? ⟨b, j, none⟩ = some (.int .u32 (n32 (q.at j))) := by rw [cell_of hb4]; exact quad4 q j hlj
                  have hlj2 := laneAt_lt i j
                  have hlj3 : ((laneAt i j : Nat) : Int) < 16 := by omega
                  have hcv := cell_u32 hcb4.v (laneAt i j) (by rw [length_setN]; omega)
                  have hfv : wr.frozen? ⟨w.heap.size + 1 + 1 + 1, laneAt i j, none⟩ = false := frozen_of hcb4.v _
                  have Hcb4 := Lib.hid hcb4
                  have Hb4 := Lib.hid hb4
                  clear hcb4 hb4
                  go_wp2
                  go_roundw
                  case rel =>
                    refine ⟨j + 1, by omega, by go_num, ⟨heap_set_other Hcb4.out.h (by simp <;> omega) _, heap_set_other Hcb4.out.m (by simp <;> omega) _, heap_set_other Hcb4.out.r (by simp <;> omega) _, ?_, Hcb4.out.b.setCell (by simp <;> omega) _⟩, heap_set_other Hb4.out (by simp <;> omega) _⟩
                    have h1 := heap_set Hcb4.out.v (laneAt i j) (.int .u32 (n32 (q.at j)))
                    rw [u32s_set] at h1
                    exact h1
                  case measure => simp [intOf]; omega
                · obtain rfl : j = 4 := by omega
                  have Hcb4 := Lib.hid hcb4
                  clear hcb4 hb4
                  go_wp2
                  go_roundw
                  case rel =>
                    refine ⟨i + 1, by omega, by go_num, ?_⟩
                    have h1 := Hcb4.out
                    rw [setN_four, Hq.out, Hvs.out] at h1
                    exact h1
                  case measure => simp [intOf]; omega
            · obtain rfl : i = 8 := by omega
              have Hcb := Lib.hid hcb
              clear hcb
              go_wp2
              go_roundw
              case rel => exact ⟨r + 1, by omega, by go_num, Hcb.out⟩
              case measure => simp [intOf]; omega
        · obtain ⟨vs, hvs⟩ : ∃ vs, vs = laps ms (v0 hs t true) r := ⟨_, rfl⟩
          have Hr : Hid (r = 10) := Lib.hid (by omega)
          rw [← hvs] at hcb
          have Hvs := Lib.hid hvs
          have Hcb := Lib.hid hcb
          clear hcb hvs
          go_wp2
          go_loopw [100] (fun k wr => ∃ j : Nat, j ≤ 8 ∧ k = .int .i64 j ∧ CB w w.heap.size (w.heap.size + 1) (w.heap.size + 1 + 1) (w.heap.size + 1 + 1 + 1) (finN hs vs j) ms vs wr) (fun k _ => 8 - (intOf k).toNat)
          case atStart => exact ⟨0, by omega, rfl, Hcb.out⟩
          case round =>
            obtain ⟨j, hj, rfl, hcb4⟩ := hrel
            by_cases hlj : j < 8
            · have hvl : vs.length = 16 := by rw [Hvs.out, length_laps, Hhs.out]; rfl
              have hhl : (finN hs vs j).length = 8 := by rw [length_finN, Hhs.out]; rfl
              have k0 : ∀ x : Ext wr.drew, x.v.cell? ⟨w.heap.size, j, none⟩ = some (.int .u32 (n32 (at32 (finN hs vs j) j))) := fun x => (x.cell _ _ (lt_of_block hcb4.h)).trans (cell_u32 hcb4.h j (by omega))
              have k1 : ∀ x : Ext wr.drew, x.v.cell? ⟨w.heap.size + 1 + 1 + 1, j, none⟩ = some (.int .u32 (n32 (at32 vs j))) := fun x => (x.cell _ _ (lt_of_block hcb4.v)).trans (cell_u32 hcb4.v j (by omega))
              have k2 : ∀ x : Ext wr.drew, x.v.cell? ⟨w.heap.size + 1 + 1 + 1, j + 8, none⟩ = some (.int .u32 (n32 (at32 vs (j + 8)))) := fun x => (x.cell _ _ (lt_of_block hcb4.v)).trans (cell_u32 hcb4.v (j + 8) (by omega))
              have b0 : (j : Int) < 8 := by omega
              have b1 : (j : Int) < 16 := by omega
              have b2 : (j : Int) + 8 < 16 := by omega
              have b3 : IntKind.i64.wrap ((j : Int) + 8) = (j : Int) + 8 := IntWalk.i64_in _ (by omega)
              have b4 : ((j : Int) + 8).toNat = j + 8 := by omega
              have b5 : 0 ≤ (j : Int) + 8 := by omega
              have Hcb4 := Lib.hid hcb4
              clear hcb4
              go_wp2
              refine wp_region_ext 13 (by kernel_rfl) (by kernel_rfl) ?_
              iterate 13 (refine wpX_step (fun K hK => ?_); go_simp; refine hK _ ?_; clear hK K)
              refine wpX_nil ?_
              intro X
              have hx := Hcb4.out
              have hXc : CB w w.heap.size (w.heap.size + 1) (w.heap.size + 1 + 1) (w.heap.size + 1 + 1 + 1) (finN hs vs j) ms vs X.v :=
                ⟨(X.heap _ (lt_of_block hx.h)).trans hx.h, (X.heap _ (lt_of_block hx.m)).trans hx.m, (X.heap _ (lt_of_block hx.r)).trans hx.r, (X.heap _ (lt_of_block hx.v)).trans hx.v, below_then hx.b hx.b.size (w2 := X.v) (below_undrew X.below)⟩
              clear k0 k1 k2 hx Hcb4
              generalize X.v = V at hXc ⊢
              have k0 := cell_u32 hXc.h j (by omega)
              have f0 : V.frozen? ⟨w.heap.size, j, none⟩ = false := frozen_of hXc.h _
              have HXc := Lib.hid hXc
              clear hXc
              go_wp2
              go_roundw
              case rel =>
                refine ⟨j + 1, by omega, by go_num, ⟨?_, heap_set_other HXc.out.m (by simp <;> omega) _, heap_set_other HXc.out.r (by simp <;> omega) _, heap_set_other HXc.out.v (by simp <;> omega) _, HXc.out.b.setCell (by simp <;> omega) _⟩⟩
                have h1 := heap_set HXc.out.h j (.int .u32 (n32 (at32 (finN hs vs j) j ^^^ (at32 vs j ^^^ at32 vs (j + 8)))))
                rw [u32s_set] at h1
                exact h1
              case measure => simp [intOf]; omega
            · obtain rfl : j = 8 := by omega
              have hfin : finN hs vs 8 = compress hs ms t true := by rw [Hhs.out, finN_eight]; unfold compress; rw [← Hhs.out, ← Hr.out, ← Hvs.out]
              rw [hfin] at hcb4
              obtain ⟨e0, e1, e2, e3, e4, e5, e6, e7, hes⟩ := list8 (length_compress hs ms t true)
              rw [hes] at hcb4
              have HR2 : R = .agg #[.int .u32 (n32 e0), .int .u32 (n32 e1), .int .u32 (n32 e2), .int .u32 (n32 e3), .int .u32 (n32 e4), .int .u32 (n32 e5), .int .u32 (n32 e6), .int .u32 (n32 e7)] := by
                rw [← HR.out, ← Hhs.out, ← Hms.out, hes]
                rfl
              have hh8 : wr.heap[w.heap.size]? = some (.cells #[.int .u32 (n32 e0), .int .u32 (n32 e1), .int .u32 (n32 e2), .int .u32 (n32 e3), .int .u32 (n32 e4), .int .u32 (n32 e5), .int .u32 (n32 e6), .int .u32 (n32 e7)] 31 (0, 0)) := hcb4.h
              have hr8 := hcb4.r
              have hone : (#[.int .u32 (n32 e0), .int .u32 (n32 e1), .int .u32 (n32 e2), .int .u32 (n32 e3), .int .u32 (n32 e4), .int .u32 (n32 e5), .int .u32 (n32 e6), .int .u32 (n32 e7)] : Array Value).all (·.oneCell') = true := by simp [Value.oneCell']
              have HBw := Lib.hid hcb4.b
              clear hcb4 hfin hes
              go_wp2_with (first | (refine wpList_load_row rfl 31 _ rfl w.heap.size rfl 31 _ _ _ hh8 Try.underlying31 rfl (by kernel_rfl) ?_) | (refine wpList_store_row rfl 31 _ _ rfl (w.heap.size + 1 + 1) #[.int .u32 (n32 e0), .int .u32 (n32 e1), .int .u32 (n32 e2), .int .u32 (n32 e3), .int .u32 (n32 e4), .int .u32 (n32 e5), .int .u32 (n32 e6), .int .u32 (n32 e7)] rfl rfl 31 _ hr8 (by kernel_rfl) rfl hone ?_))
              (try simp only [Exit.inBlock, Exit.then])
              refine bodyPost_ret (results_cell_row rfl _ _ (w.heap.size + 1 + 1) 31 #[.int .u32 (n32 e0), .int .u32 (n32 e1), .int .u32 (n32 e2), .int .u32 (n32 e3), .int .u32 (n32 e4), .int .u32 (n32 e5), .int .u32 (n32 e6), .int .u32 (n32 e7)] (0, 0) _ rfl (setRow_heap _ _ _ _ _ _ hr8) Try.underlying31 rfl (by kernel_rfl)) rfl ?_
              exact ⟨by rw [HR2], below_setRow HBw.out (by omega) _⟩

end Go.Proofs.Ytkkoldfaplonaaa
