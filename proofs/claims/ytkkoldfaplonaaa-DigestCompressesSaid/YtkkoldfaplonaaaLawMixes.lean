/- The walk of the law DigestMixes. -/
import Derived.Test.YtkkoldfaplonaaaLawA
namespace Go.Proofs.Ytkkoldfaplonaaa
open Go.RowKit

/-- Equality of words, closed to simp. -/
def eqL (a b : List UInt32) : Bool := decide (a = b)

set_option maxRecDepth 100000 in
set_option maxHeartbeats 4000000 in
theorem mixes_law (a b c d a' b' c' d' x y : UInt32) (w : World) :
    Calls Try.prog 6 #[.agg #[.int .u32 (n32 a), .int .u32 (n32 b), .int .u32 (n32 c), .int .u32 (n32 d)], .agg #[.int .u32 (n32 a'), .int .u32 (n32 b'), .int .u32 (n32 c'), .int .u32 (n32 d')], .agg #[.int .u32 (n32 x), .int .u32 (n32 y)]] w (Ret (.bool true) w) := by
  have i0 : (Try.prog.info? 29).map (fun i => (i.zero, i.size, i.bytes)) = some (some (.int .u32 0), 1, 4) := by kernel_rfl
  obtain ⟨i5, hi5, hz5, hs5, hb5⟩ := info_parts i0
  have hag : ∀ w, (isAgg 29).run Try.prog w = .ok false w := fun w => by kernel_rfl
  have hcs : Try.prog.cellsOf 29 = 1 := by kernel_rfl
  have heq : ∀ (p q p2 q2 p3 q3 p4 q4 : UInt32) (w : World), (Op.equalIn 10000 30 (.agg #[.int .u32 (n32 p), .int .u32 (n32 p2), .int .u32 (n32 p3), .int .u32 (n32 p4)]) (.agg #[.int .u32 (n32 q), .int .u32 (n32 q2), .int .u32 (n32 q3), .int .u32 (n32 q4)])).run Try.prog w = .ok (eqL [p, p2, p3, p4] [q, q2, q3, q4]) w := fun p q p2 q2 p3 q3 p4 q4 w =>
    run_eq_u32s (P := Try.prog) Try.underlying30 Try.underlying29 hag hi5 hcs [p, p2, p3, p4] [q, q2, q3, q4] rfl rfl w
  obtain ⟨m1, hm1⟩ : ∃ m1, m1 = mix a b c d x y := ⟨_, rfl⟩
  obtain ⟨m2, hm2⟩ : ∃ m2, m2 = mix a' b' c' d' x y := ⟨_, rfl⟩
  have hM1 : ∀ w, Calls Try.prog 16 #[.agg #[.int .u32 (n32 a), .int .u32 (n32 b), .int .u32 (n32 c), .int .u32 (n32 d)], .int .u32 (n32 x), .int .u32 (n32 y)] w (Ret (.agg #[.int .u32 (n32 m1.a), .int .u32 (n32 m1.b), .int .u32 (n32 m1.c), .int .u32 (n32 m1.d)]) w) := fun w => by
    rw [hm1]
    exact mix_any a b c d x y w
  have hM2 : ∀ w, Calls Try.prog 16 #[.agg #[.int .u32 (n32 a'), .int .u32 (n32 b'), .int .u32 (n32 c'), .int .u32 (n32 d')], .int .u32 (n32 x), .int .u32 (n32 y)] w (Ret (.agg #[.int .u32 (n32 m2.a), .int .u32 (n32 m2.b), .int .u32 (n32 m2.c), .int .u32 (n32 m2.d)]) w) := fun w => by
    rw [hm2]
    exact mix_any a' b' c' d' x y w
  have hres : eqL [m1.a, m1.b, m1.c, m1.d] [m2.a, m2.b, m2.c, m2.d] = eqL [a, b, c, d] [a', b', c', d'] := by
    unfold eqL
    rw [decide_eq_decide]
    constructor
    · intro h
      have h1 : m1 = m2 := by
        cases m1
        cases m2
        simp only [List.cons.injEq, and_true] at h
        obtain ⟨e1, e2, e3, e4⟩ := h
        rw [Quad.mk.injEq]
        exact ⟨e1, e2, e3, e4⟩
      rw [hm1, hm2] at h1
      obtain ⟨rfl, rfl, rfl, rfl⟩ := mix_inj h1
      rfl
    · intro h
      simp only [List.cons.injEq, and_true] at h
      obtain ⟨rfl, rfl, rfl, rfl⟩ := h
      rw [hm1, hm2]
  have HM1 := Lib.hid hM1
  have HM2 := Lib.hid hM2
  have Hres := Lib.hid hres
  have HA := Lib.hid awake_any
  have Hi := Lib.hid i0
  have HB := Lib.hid (Below.refl w.heap.size w)
  clear hM1 hM2 hm1 hm2 hres i0 hi5 hz5 hs5 hb5 hag hcs
  go_enter Try.func6, Try.ntmps6
  go_upto_region 1 with (fail)
  obtain ⟨b3, hb3⟩ : ∃ b3, b3 = w.heap.size := ⟨_, rfl⟩
  refine wp_gen (fun W => Below w.heap.size w W ∧ W.heap[b3]? = some (.cells #[.int .u32 (n32 a), .int .u32 (n32 b), .int .u32 (n32 c), .int .u32 (n32 d)] 30 (0, 0)) ∧ W.heap[b3 + 1]? = some (.cells #[.int .u32 (n32 a'), .int .u32 (n32 b'), .int .u32 (n32 c'), .int .u32 (n32 d')] 30 (0, 0)) ∧ W.heap[b3 + 2]? = some (.cells #[.int .u32 (n32 x), .int .u32 (n32 y)] 39 (0, 0))) ?_ ?_
  · refine ⟨(((Below.refl _ _).alloc (Nat.le_refl _) _).alloc (by simp) _).alloc (by simp; omega) _, ?_, ?_, ?_⟩
    · rw [hb3]
      exact heap_old (heap_old (heap_new w _) _) _
    · have h := heap_old (heap_new (w.alloc (.cells #[.int .u32 (n32 a), .int .u32 (n32 b), .int .u32 (n32 c), .int .u32 (n32 d)] 30)) (.cells #[.int .u32 (n32 a'), .int .u32 (n32 b'), .int .u32 (n32 c'), .int .u32 (n32 d')] 30)) (.cells #[.int .u32 (n32 x), .int .u32 (n32 y)] 39)
      rw [World.size_alloc] at h
      rw [hb3]
      exact h
    · have h := heap_new ((w.alloc (.cells #[.int .u32 (n32 a), .int .u32 (n32 b), .int .u32 (n32 c), .int .u32 (n32 d)] 30)).alloc (.cells #[.int .u32 (n32 a'), .int .u32 (n32 b'), .int .u32 (n32 c'), .int .u32 (n32 d')] 30)) (.cells #[.int .u32 (n32 x), .int .u32 (n32 y)] 39)
      rw [World.size_alloc, World.size_alloc] at h
      rw [hb3]
      exact h
  rintro W ⟨hW, h3, h4, h5⟩
  rw [← hb3]
  clear hb3
  have qh3_0 : ∀ X : Ext W.drew, X.v.cell? ⟨b3, 0, none⟩ = some (.int .u32 (n32 a)) := fun X => (X.cell _ _ (lt_of_block h3)).trans (by show W.cell? _ = _; rw [cell_of h3]; rfl)
  have qh3_1 : ∀ X : Ext W.drew, X.v.cell? ⟨b3, 1, none⟩ = some (.int .u32 (n32 b)) := fun X => (X.cell _ _ (lt_of_block h3)).trans (by show W.cell? _ = _; rw [cell_of h3]; rfl)
  have qh3_2 : ∀ X : Ext W.drew, X.v.cell? ⟨b3, 2, none⟩ = some (.int .u32 (n32 c)) := fun X => (X.cell _ _ (lt_of_block h3)).trans (by show W.cell? _ = _; rw [cell_of h3]; rfl)
  have qh3_3 : ∀ X : Ext W.drew, X.v.cell? ⟨b3, 3, none⟩ = some (.int .u32 (n32 d)) := fun X => (X.cell _ _ (lt_of_block h3)).trans (by show W.cell? _ = _; rw [cell_of h3]; rfl)
  have qh4_0 : ∀ X : Ext W.drew, X.v.cell? ⟨b3 + 1, 0, none⟩ = some (.int .u32 (n32 a')) := fun X => (X.cell _ _ (lt_of_block h4)).trans (by show W.cell? _ = _; rw [cell_of h4]; rfl)
  have qh4_1 : ∀ X : Ext W.drew, X.v.cell? ⟨b3 + 1, 1, none⟩ = some (.int .u32 (n32 b')) := fun X => (X.cell _ _ (lt_of_block h4)).trans (by show W.cell? _ = _; rw [cell_of h4]; rfl)
  have qh4_2 : ∀ X : Ext W.drew, X.v.cell? ⟨b3 + 1, 2, none⟩ = some (.int .u32 (n32 c')) := fun X => (X.cell _ _ (lt_of_block h4)).trans (by show W.cell? _ = _; rw [cell_of h4]; rfl)
  have qh4_3 : ∀ X : Ext W.drew, X.v.cell? ⟨b3 + 1, 3, none⟩ = some (.int .u32 (n32 d')) := fun X => (X.cell _ _ (lt_of_block h4)).trans (by show W.cell? _ = _; rw [cell_of h4]; rfl)
  have qh5_0 : ∀ X : Ext W.drew, X.v.cell? ⟨b3 + 2, 0, none⟩ = some (.int .u32 (n32 x)) := fun X => (X.cell _ _ (lt_of_block h5)).trans (by show W.cell? _ = _; rw [cell_of h5]; rfl)
  have qh5_1 : ∀ X : Ext W.drew, X.v.cell? ⟨b3 + 2, 1, none⟩ = some (.int .u32 (n32 y)) := fun X => (X.cell _ _ (lt_of_block h5)).trans (by show W.cell? _ = _; rw [cell_of h5]; rfl)
  have HW := Lib.hid hW
  clear h3 h4 h5 hW
  refine wp_region_ext 20 (by kernel_rfl) (by kernel_rfl) ?_
  refine wpX_step (fun K hK => ?_)
  go_simp
  refine ⟨_, fun X => HA.out X.v, hK _ ?_⟩
  clear hK K
  iterate 6 (refine wpX_step (fun K hK => ?_); go_simp; refine hK _ ?_; clear hK K)
  refine wpX_step (fun K hK => ?_)
  go_simp
  refine ⟨_, fun X => HM1.out X.v, hK _ ?_⟩
  clear hK K
  iterate 5 (refine wpX_step (fun K hK => ?_); go_simp; refine hK _ ?_; clear hK K)
  refine wpX_step (fun K hK => ?_)
  go_simp
  refine ⟨_, fun X => HM2.out X.v, hK _ ?_⟩
  clear hK K
  iterate 6 (refine wpX_step (fun K hK => ?_); go_simp; refine hK _ ?_; clear hK K)
  refine wpX_nil ?_
  intro X
  have hX := below_then HW.out HW.out.size (w2 := X.v) (below_undrew X.below)
  have hr : (eqL [m1.a, m1.b, m1.c, m1.d] [m2.a, m2.b, m2.c, m2.d] == eqL [a, b, c, d] [a', b', c', d']) = true := by
    rw [Hres.out]
    exact beq_self_eq_true _
  go_wp2
  go_ret
  exact ⟨rfl, hX⟩

end Go.Proofs.Ytkkoldfaplonaaa
