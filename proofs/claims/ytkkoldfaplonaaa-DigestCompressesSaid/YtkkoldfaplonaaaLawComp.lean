/- The walk of the law DigestCompresses. -/
import Derived.Test.YtkkoldfaplonaaaLawMixes
namespace Go.Proofs.Ytkkoldfaplonaaa
open Go.RowKit

theorem compressr_any (h m : List UInt32) (t : Nat) (last : Bool) (w : World) (hh : h.length = 8) (hm : m.length = 16) (ht : t < 18446744073709551616) :
    Calls Try.prog 19 #[uAgg h, uAgg m, .int .u64 t, .bool last] w (Ret (uAgg (compress h m t last)) w) := by
  cases last with
  | false => exact compressr_false h m t w hh hm ht
  | true => exact compressr_true h m t w hh hm ht

set_option maxRecDepth 100000 in
set_option maxHeartbeats 4000000 in
theorem compresses_law (v0 v1 v2 v3 h0 h1 h2 h3 h4 h5 h6 h7 m0 m1 m2 m3 m4 m5 m6 m7 m8 m9 m10 m11 m12 m13 m14 m15 : UInt32) (t : Nat) (ht : t < 18446744073709551616) (last : Bool) (w : World) :
    Calls Try.prog 5 #[.agg #[.int .u32 (n32 v0), .int .u32 (n32 v1), .int .u32 (n32 v2), .int .u32 (n32 v3), .int .u32 (n32 h0), .int .u32 (n32 h1), .int .u32 (n32 h2), .int .u32 (n32 h3), .int .u32 (n32 h4), .int .u32 (n32 h5), .int .u32 (n32 h6), .int .u32 (n32 h7), .int .u32 (n32 m0), .int .u32 (n32 m1), .int .u32 (n32 m2), .int .u32 (n32 m3), .int .u32 (n32 m4), .int .u32 (n32 m5), .int .u32 (n32 m6), .int .u32 (n32 m7), .int .u32 (n32 m8), .int .u32 (n32 m9), .int .u32 (n32 m10), .int .u32 (n32 m11), .int .u32 (n32 m12), .int .u32 (n32 m13), .int .u32 (n32 m14), .int .u32 (n32 m15), .int .u64 (t : Int)], .bool last] w (Ret (.bool true) w) := by
  have i0 : (Try.prog.info? 29).map (fun i => (i.zero, i.size, i.bytes)) = some (some (.int .u32 0), 1, 4) := by kernel_rfl
  obtain ⟨i5, hi5, hz5, hs5, hb5⟩ := info_parts i0
  have hag : ∀ w, (isAgg 29).run Try.prog w = .ok false w := fun w => by kernel_rfl
  have hcs : Try.prog.cellsOf 29 = 1 := by kernel_rfl
  obtain ⟨m_, hm_⟩ : ∃ m_, m_ = mix v0 v1 v2 v3 m0 m1 := ⟨_, rfl⟩
  obtain ⟨c_, hc_⟩ : ∃ c_, c_ = compress [h0, h1, h2, h3, h4, h5, h6, h7] [m0, m1, m2, m3, m4, m5, m6, m7, m8, m9, m10, m11, m12, m13, m14, m15] t last := ⟨_, rfl⟩
  have hcl : c_.length = 8 := by rw [hc_]; exact length_compress _ _ _ _
  have heq4 : ∀ (w : World), (Op.equalIn 10000 30 (.agg #[.int .u32 (n32 m_.a), .int .u32 (n32 m_.b), .int .u32 (n32 m_.c), .int .u32 (n32 m_.d)]) (.agg #[.int .u32 (n32 m_.a), .int .u32 (n32 m_.b), .int .u32 (n32 m_.c), .int .u32 (n32 m_.d)])).run Try.prog w = .ok true w := fun w => by
    have h := run_eq_u32s (P := Try.prog) Try.underlying30 Try.underlying29 hag hi5 hcs [m_.a, m_.b, m_.c, m_.d] [m_.a, m_.b, m_.c, m_.d] rfl rfl w
    rw [decide_eq_true rfl] at h
    exact h
  have heq8 : ∀ (w : World), (Op.equalIn 10000 31 (.agg (u32s c_).toArray) (.agg (u32s c_).toArray)).run Try.prog w = .ok true w := fun w => by
    have h := run_eq_u32s (P := Try.prog) Try.underlying31 Try.underlying29 hag hi5 hcs c_ c_ hcl hcl w
    rw [decide_eq_true rfl] at h
    exact h
  have hM1 : ∀ w, Calls Try.prog 16 #[.agg #[.int .u32 (n32 v0), .int .u32 (n32 v1), .int .u32 (n32 v2), .int .u32 (n32 v3)], .int .u32 (n32 m0), .int .u32 (n32 m1)] w (Ret (.agg #[.int .u32 (n32 m_.a), .int .u32 (n32 m_.b), .int .u32 (n32 m_.c), .int .u32 (n32 m_.d)]) w) := fun w => by
    rw [hm_]
    exact mix_any v0 v1 v2 v3 m0 m1 w
  have hM2 : ∀ w, Calls Try.prog 17 #[.agg #[.int .u32 (n32 v0), .int .u32 (n32 v1), .int .u32 (n32 v2), .int .u32 (n32 v3)], .int .u32 (n32 m0), .int .u32 (n32 m1)] w (Ret (.agg #[.int .u32 (n32 m_.a), .int .u32 (n32 m_.b), .int .u32 (n32 m_.c), .int .u32 (n32 m_.d)]) w) := fun w => by
    rw [hm_]
    exact mixr_any v0 v1 v2 v3 m0 m1 w
  have hC1 : ∀ w, Calls Try.prog 18 #[.agg #[.int .u32 (n32 h0), .int .u32 (n32 h1), .int .u32 (n32 h2), .int .u32 (n32 h3), .int .u32 (n32 h4), .int .u32 (n32 h5), .int .u32 (n32 h6), .int .u32 (n32 h7)], .agg #[.int .u32 (n32 m0), .int .u32 (n32 m1), .int .u32 (n32 m2), .int .u32 (n32 m3), .int .u32 (n32 m4), .int .u32 (n32 m5), .int .u32 (n32 m6), .int .u32 (n32 m7), .int .u32 (n32 m8), .int .u32 (n32 m9), .int .u32 (n32 m10), .int .u32 (n32 m11), .int .u32 (n32 m12), .int .u32 (n32 m13), .int .u32 (n32 m14), .int .u32 (n32 m15)], .int .u64 (t : Int), .bool last] w (Ret (.agg (u32s c_).toArray) w) := fun w => by
    rw [hc_]
    exact compress_any [h0, h1, h2, h3, h4, h5, h6, h7] [m0, m1, m2, m3, m4, m5, m6, m7, m8, m9, m10, m11, m12, m13, m14, m15] t last w rfl rfl ht
  have hC2 : ∀ w, Calls Try.prog 19 #[.agg #[.int .u32 (n32 h0), .int .u32 (n32 h1), .int .u32 (n32 h2), .int .u32 (n32 h3), .int .u32 (n32 h4), .int .u32 (n32 h5), .int .u32 (n32 h6), .int .u32 (n32 h7)], .agg #[.int .u32 (n32 m0), .int .u32 (n32 m1), .int .u32 (n32 m2), .int .u32 (n32 m3), .int .u32 (n32 m4), .int .u32 (n32 m5), .int .u32 (n32 m6), .int .u32 (n32 m7), .int .u32 (n32 m8), .int .u32 (n32 m9), .int .u32 (n32 m10), .int .u32 (n32 m11), .int .u32 (n32 m12), .int .u32 (n32 m13), .int .u32 (n32 m14), .int .u32 (n32 m15)], .int .u64 (t : Int), .bool last] w (Ret (.agg (u32s c_).toArray) w) := fun w => by
    rw [hc_]
    exact compressr_any [h0, h1, h2, h3, h4, h5, h6, h7] [m0, m1, m2, m3, m4, m5, m6, m7, m8, m9, m10, m11, m12, m13, m14, m15] t last w rfl rfl ht
  generalize (u32s c_).toArray = c8 at heq8 hC1 hC2
  have HM1 := Lib.hid hM1
  have HM2 := Lib.hid hM2
  have HC1 := Lib.hid hC1
  have HC2 := Lib.hid hC2
  have HA := Lib.hid awake_any
  clear hM1 hM2 hm_ hC1 hC2 hc_ i0 hi5 hz5 hs5 hb5 hag hcs hcl
  go_enter Try.func5, Try.ntmps5
  go_upto_region 1 with (fail)
  obtain ⟨b2, hb2⟩ : ∃ b2, b2 = w.heap.size := ⟨_, rfl⟩
  refine wp_gen (fun W => Below w.heap.size w W ∧ W.heap[b2]? = some (.cells #[.int .u32 (n32 v0), .int .u32 (n32 v1), .int .u32 (n32 v2), .int .u32 (n32 v3), .int .u32 (n32 h0), .int .u32 (n32 h1), .int .u32 (n32 h2), .int .u32 (n32 h3), .int .u32 (n32 h4), .int .u32 (n32 h5), .int .u32 (n32 h6), .int .u32 (n32 h7), .int .u32 (n32 m0), .int .u32 (n32 m1), .int .u32 (n32 m2), .int .u32 (n32 m3), .int .u32 (n32 m4), .int .u32 (n32 m5), .int .u32 (n32 m6), .int .u32 (n32 m7), .int .u32 (n32 m8), .int .u32 (n32 m9), .int .u32 (n32 m10), .int .u32 (n32 m11), .int .u32 (n32 m12), .int .u32 (n32 m13), .int .u32 (n32 m14), .int .u32 (n32 m15), .int .u64 (t : Int)] 35 (0, 0))) ?_ ?_
  · refine ⟨(Below.refl _ _).alloc (Nat.le_refl _) _, ?_⟩
    rw [hb2]
    exact heap_new w _
  rintro W ⟨hW, hblk2⟩
  rw [← hb2]
  clear hb2
  have z0 : ∀ X : Ext W.drew, X.v.cell? ⟨b2, 0, none⟩ = some (.int .u32 (n32 v0)) := fun X => (X.cell _ _ (lt_of_block hblk2)).trans (by show W.cell? _ = _; rw [cell_of hblk2]; rfl)
  have z1 : ∀ X : Ext W.drew, X.v.cell? ⟨b2, 1, none⟩ = some (.int .u32 (n32 v1)) := fun X => (X.cell _ _ (lt_of_block hblk2)).trans (by show W.cell? _ = _; rw [cell_of hblk2]; rfl)
  have z2 : ∀ X : Ext W.drew, X.v.cell? ⟨b2, 2, none⟩ = some (.int .u32 (n32 v2)) := fun X => (X.cell _ _ (lt_of_block hblk2)).trans (by show W.cell? _ = _; rw [cell_of hblk2]; rfl)
  have z3 : ∀ X : Ext W.drew, X.v.cell? ⟨b2, 3, none⟩ = some (.int .u32 (n32 v3)) := fun X => (X.cell _ _ (lt_of_block hblk2)).trans (by show W.cell? _ = _; rw [cell_of hblk2]; rfl)
  have z4 : ∀ X : Ext W.drew, X.v.cell? ⟨b2, 4, none⟩ = some (.int .u32 (n32 h0)) := fun X => (X.cell _ _ (lt_of_block hblk2)).trans (by show W.cell? _ = _; rw [cell_of hblk2]; rfl)
  have z5 : ∀ X : Ext W.drew, X.v.cell? ⟨b2, 5, none⟩ = some (.int .u32 (n32 h1)) := fun X => (X.cell _ _ (lt_of_block hblk2)).trans (by show W.cell? _ = _; rw [cell_of hblk2]; rfl)
  have z6 : ∀ X : Ext W.drew, X.v.cell? ⟨b2, 6, none⟩ = some (.int .u32 (n32 h2)) := fun X => (X.cell _ _ (lt_of_block hblk2)).trans (by show W.cell? _ = _; rw [cell_of hblk2]; rfl)
  have z7 : ∀ X : Ext W.drew, X.v.cell? ⟨b2, 7, none⟩ = some (.int .u32 (n32 h3)) := fun X => (X.cell _ _ (lt_of_block hblk2)).trans (by show W.cell? _ = _; rw [cell_of hblk2]; rfl)
  have z8 : ∀ X : Ext W.drew, X.v.cell? ⟨b2, 8, none⟩ = some (.int .u32 (n32 h4)) := fun X => (X.cell _ _ (lt_of_block hblk2)).trans (by show W.cell? _ = _; rw [cell_of hblk2]; rfl)
  have z9 : ∀ X : Ext W.drew, X.v.cell? ⟨b2, 9, none⟩ = some (.int .u32 (n32 h5)) := fun X => (X.cell _ _ (lt_of_block hblk2)).trans (by show W.cell? _ = _; rw [cell_of hblk2]; rfl)
  have z10 : ∀ X : Ext W.drew, X.v.cell? ⟨b2, 10, none⟩ = some (.int .u32 (n32 h6)) := fun X => (X.cell _ _ (lt_of_block hblk2)).trans (by show W.cell? _ = _; rw [cell_of hblk2]; rfl)
  have z11 : ∀ X : Ext W.drew, X.v.cell? ⟨b2, 11, none⟩ = some (.int .u32 (n32 h7)) := fun X => (X.cell _ _ (lt_of_block hblk2)).trans (by show W.cell? _ = _; rw [cell_of hblk2]; rfl)
  have z12 : ∀ X : Ext W.drew, X.v.cell? ⟨b2, 12, none⟩ = some (.int .u32 (n32 m0)) := fun X => (X.cell _ _ (lt_of_block hblk2)).trans (by show W.cell? _ = _; rw [cell_of hblk2]; rfl)
  have z13 : ∀ X : Ext W.drew, X.v.cell? ⟨b2, 13, none⟩ = some (.int .u32 (n32 m1)) := fun X => (X.cell _ _ (lt_of_block hblk2)).trans (by show W.cell? _ = _; rw [cell_of hblk2]; rfl)
  have z14 : ∀ X : Ext W.drew, X.v.cell? ⟨b2, 14, none⟩ = some (.int .u32 (n32 m2)) := fun X => (X.cell _ _ (lt_of_block hblk2)).trans (by show W.cell? _ = _; rw [cell_of hblk2]; rfl)
  have z15 : ∀ X : Ext W.drew, X.v.cell? ⟨b2, 15, none⟩ = some (.int .u32 (n32 m3)) := fun X => (X.cell _ _ (lt_of_block hblk2)).trans (by show W.cell? _ = _; rw [cell_of hblk2]; rfl)
  have z16 : ∀ X : Ext W.drew, X.v.cell? ⟨b2, 16, none⟩ = some (.int .u32 (n32 m4)) := fun X => (X.cell _ _ (lt_of_block hblk2)).trans (by show W.cell? _ = _; rw [cell_of hblk2]; rfl)
  have z17 : ∀ X : Ext W.drew, X.v.cell? ⟨b2, 17, none⟩ = some (.int .u32 (n32 m5)) := fun X => (X.cell _ _ (lt_of_block hblk2)).trans (by show W.cell? _ = _; rw [cell_of hblk2]; rfl)
  have z18 : ∀ X : Ext W.drew, X.v.cell? ⟨b2, 18, none⟩ = some (.int .u32 (n32 m6)) := fun X => (X.cell _ _ (lt_of_block hblk2)).trans (by show W.cell? _ = _; rw [cell_of hblk2]; rfl)
  have z19 : ∀ X : Ext W.drew, X.v.cell? ⟨b2, 19, none⟩ = some (.int .u32 (n32 m7)) := fun X => (X.cell _ _ (lt_of_block hblk2)).trans (by show W.cell? _ = _; rw [cell_of hblk2]; rfl)
  have z20 : ∀ X : Ext W.drew, X.v.cell? ⟨b2, 20, none⟩ = some (.int .u32 (n32 m8)) := fun X => (X.cell _ _ (lt_of_block hblk2)).trans (by show W.cell? _ = _; rw [cell_of hblk2]; rfl)
  have z21 : ∀ X : Ext W.drew, X.v.cell? ⟨b2, 21, none⟩ = some (.int .u32 (n32 m9)) := fun X => (X.cell _ _ (lt_of_block hblk2)).trans (by show W.cell? _ = _; rw [cell_of hblk2]; rfl)
  have z22 : ∀ X : Ext W.drew, X.v.cell? ⟨b2, 22, none⟩ = some (.int .u32 (n32 m10)) := fun X => (X.cell _ _ (lt_of_block hblk2)).trans (by show W.cell? _ = _; rw [cell_of hblk2]; rfl)
  have z23 : ∀ X : Ext W.drew, X.v.cell? ⟨b2, 23, none⟩ = some (.int .u32 (n32 m11)) := fun X => (X.cell _ _ (lt_of_block hblk2)).trans (by show W.cell? _ = _; rw [cell_of hblk2]; rfl)
  have z24 : ∀ X : Ext W.drew, X.v.cell? ⟨b2, 24, none⟩ = some (.int .u32 (n32 m12)) := fun X => (X.cell _ _ (lt_of_block hblk2)).trans (by show W.cell? _ = _; rw [cell_of hblk2]; rfl)
  have z25 : ∀ X : Ext W.drew, X.v.cell? ⟨b2, 25, none⟩ = some (.int .u32 (n32 m13)) := fun X => (X.cell _ _ (lt_of_block hblk2)).trans (by show W.cell? _ = _; rw [cell_of hblk2]; rfl)
  have z26 : ∀ X : Ext W.drew, X.v.cell? ⟨b2, 26, none⟩ = some (.int .u32 (n32 m14)) := fun X => (X.cell _ _ (lt_of_block hblk2)).trans (by show W.cell? _ = _; rw [cell_of hblk2]; rfl)
  have z27 : ∀ X : Ext W.drew, X.v.cell? ⟨b2, 27, none⟩ = some (.int .u32 (n32 m15)) := fun X => (X.cell _ _ (lt_of_block hblk2)).trans (by show W.cell? _ = _; rw [cell_of hblk2]; rfl)
  have z28 : ∀ X : Ext W.drew, X.v.cell? ⟨b2, 28, none⟩ = some (.int .u64 (t : Int)) := fun X => (X.cell _ _ (lt_of_block hblk2)).trans (by show W.cell? _ = _; rw [cell_of hblk2]; rfl)
  have HW := Lib.hid hW
  clear hblk2 hW
  refine wp_region_ext 41 (by kernel_rfl) (by kernel_rfl) ?_
  refine wpX_step (fun K hK => ?_)
  go_simp
  refine ⟨_, fun X => HA.out X.v, hK _ ?_⟩
  clear hK K
  iterate 9 (refine wpX_step (fun K hK => ?_); go_simp; refine hK _ ?_; clear hK K)
  refine wpX_step (fun K hK => ?_)
  go_simp
  refine ⟨_, fun X => HM1.out X.v, hK _ ?_⟩
  clear hK K
  iterate 8 (refine wpX_step (fun K hK => ?_); go_simp; refine hK _ ?_; clear hK K)
  refine wpX_step (fun K hK => ?_)
  go_simp
  refine ⟨_, fun X => HM2.out X.v, hK _ ?_⟩
  clear hK K
  iterate 2 (refine wpX_step (fun K hK => ?_); go_simp; refine hK _ ?_; clear hK K)
  iterate 8 (refine wpX_step (fun K hK => ?_); go_simp; refine hK _ ?_; clear hK K)
  refine wpX_step (fun K hK => ?_)
  go_simp
  refine ⟨_, fun X => HC1.out X.v, hK _ ?_⟩
  clear hK K
  iterate 7 (refine wpX_step (fun K hK => ?_); go_simp; refine hK _ ?_; clear hK K)
  refine wpX_step (fun K hK => ?_)
  go_simp
  refine ⟨_, fun X => HC2.out X.v, hK _ ?_⟩
  clear hK K
  iterate 2 (refine wpX_step (fun K hK => ?_); go_simp; refine hK _ ?_; clear hK K)
  refine wpX_nil ?_
  intro X
  have hX := below_then HW.out HW.out.size (w2 := X.v) (below_undrew X.below)
  go_wp2
  go_ret
  exact ⟨rfl, hX⟩

end Go.Proofs.Ytkkoldfaplonaaa
