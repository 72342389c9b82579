/- The walk of the law DigestClones. -/
import Derived.Test.YtkkoldfaplonaaaHs
import Derived.LaidEql
namespace Go.Proofs.Ytkkoldfaplonaaa
open Go.RowKit

theorem run_eql_ptr_other {P : Program} (w : World) {tp te : TypeId} {j : TypeInfo} {a b : Addr} {ca cb : Array Value} {ta tb : TypeId} (hp : P.underlying tp = some (.pointer te)) (hte : P.info? te = some j) (hsz : j.size ≠ 0)
    (hne : a ≠ b) (ha : w.heap[a.block]? = some (.cells ca ta (0, 0))) (hb : w.heap[b.block]? = some (.cells cb tb (0, 0))) :
    (binOp .eql tp (.pointer (some a)) (.pointer (some b))).run P w = .ok (.bool false) w := by
  have h : ∀ d : Nat, (Op.equalIn (d + 1) tp (.pointer (some a)) (.pointer (some b))).run P w = .ok false w := fun d => by
    simp [Op.equalIn, run_underlying hp, sizeOf, typeInfo, hte, hsz, run_sameAddr_other w hne ha hb]
  simp only [binOp]
  simp [Op.equal, Op.maxDepth, h 9999]

set_option maxRecDepth 100000 in
set_option maxHeartbeats 4000000 in
theorem clones_law (f a b : ByteArray) (w : World) : Calls Try.prog 10 #[.string f, .string a, .string b] w (Ret (.bool true) w) := by
  have HA := Lib.hid awake_any
  by_cases hf : (300 : Int) < (f.size : Int)
  · go_enter Try.func10, Try.ntmps10
    go_wp2_with (go_at_call 11; (with_reducible refine (HA.out _).mono ?_); rintro e w1 ⟨rfl, hb⟩; have HB := Lib.hid hb; clear hb)
    go_ret
    exact ⟨rfl, HB.out⟩
  by_cases ha : (300 : Int) < (a.size : Int)
  · go_enter Try.func10, Try.ntmps10
    go_wp2_with (go_at_call 11; (with_reducible refine (HA.out _).mono ?_); rintro e w1 ⟨rfl, hb⟩; have HB := Lib.hid hb; clear hb)
    go_ret
    exact ⟨rfl, HB.out⟩
  by_cases hb : (300 : Int) < (b.size : Int)
  · go_enter Try.func10, Try.ntmps10
    go_wp2_with (go_at_call 11; (with_reducible refine (HA.out _).mono ?_); rintro e w1 ⟨rfl, hb⟩; have HB := Lib.hid hb; clear hb)
    go_ret
    exact ⟨rfl, HB.out⟩
  have hfl : f.data.toList.length = f.size := by simp
  have hal : a.data.toList.length = a.size := by simp
  have hbl : b.data.toList.length = b.size := by simp
  have HFL := Lib.hid hfl
  have HAL := Lib.hid hal
  have HBL := Lib.hid hbl
  have HW := Lib.hid (Below.refl w.heap.size w)
  have hS1 : ∀ w, Calls Try.prog 12 #[.string f] w (Ret (.string (S8 (dsum f.data.toList))) w) := fun w => dsum_any f w (by omega)
  have hS2 : ∀ w, Calls Try.prog 12 #[.string (f ++ a)] w (Ret (.string (S8 (dsum (f.data.toList ++ a.data.toList)))) w) := fun w => by
    have h := dsum_any (f ++ a) w (by rw [ByteArray.size_append]; omega)
    rw [show (f ++ a).data.toList = f.data.toList ++ a.data.toList by simp] at h
    exact h
  have hS3 : ∀ w, Calls Try.prog 12 #[.string (f ++ b)] w (Ret (.string (S8 (dsum (f.data.toList ++ b.data.toList)))) w) := fun w => by
    have h := dsum_any (f ++ b) w (by rw [ByteArray.size_append]; omega)
    rw [show (f ++ b).data.toList = f.data.toList ++ b.data.toList by simp] at h
    exact h
  have HS1 := Lib.hid hS1
  have HS2 := Lib.hid hS2
  have HS3 := Lib.hid hS3
  clear hS1 hS2 hS3 hfl hal hbl
  go_enter Try.func10, Try.ntmps10
  go_upto_region 8 with (first
    | (go_at_call 11; (with_reducible refine (HA.out _).mono ?_); rintro e w1 ⟨rfl, hb1⟩; have HW1 := Lib.hid (HW.out.trans (hb1.mono HW.out.size)); clear hb1)
    | (go_at_call 20; (with_reducible refine (hs_new w.heap.size _ HW1.out.size).mono ?_); rintro e w2 ⟨b1, v1, rfl, hs1, hb2⟩; have HH1 := Lib.hid hs1; have HW2 := Lib.hid (HW1.out.trans (hb2.mono HW1.out.size)); clear hs1 hb2))
  go_upto_region 9 with (go_at_call 21; (with_reducible refine (hs_write1 w.heap.size b1 v1 [] 0 f w2 HH1.out HW2.out.size (by simp; omega) (by omega)).mono ?_); rintro e w3 ⟨rfl, v2, hs2, hk2, -⟩; rw [List.nil_append, Nat.zero_add] at hs2; have HH2 := Lib.hid hs2; have HK2 := Lib.hid hk2; clear hs2 hk2)
  have below1 : Below w.heap.size w w3 := HW2.out.trans (HK2.out.below HW2.out.size (fun k hk => by
    rcases hk with rfl | hk
    · exact HH1.out.ge
    · exact (HH1.out.st.seg.lt k hk.symm).1))
  have HW3 := Lib.hid below1
  clear below1
  go_upto_region 10 with (go_at_call 25; (with_reducible refine (hs_clone w.heap.size b1 v2 _ _ w3 HH2.out HW3.out.size).mono ?_); rintro e w4 ⟨b2, u1, rfl, hs4, hb2, hu1, hb4⟩; have HC4 := Lib.hid hs4; have HB2 := Lib.hid hb2; have HU1 := Lib.hid hu1; have HH4 := Lib.hid (HH2.out.below hb4); have HW4 := Lib.hid (HW3.out.trans (hb4.mono HW3.out.size)); clear hs4 hb2 hu1 hb4)
  have hne : b2 ≠ b1 := by have := HH2.out.lt; have := HB2.out; omega
  have hne2 : b1 ≠ b2 := hne.symm
  have HN := Lib.hid hne
  have i0 : (Try.prog.info? 69).map (·.size) = some 11 := by kernel_rfl
  obtain ⟨i1, hi1, hz1⟩ := Option.map_eq_some_iff.1 i0
  have heqp := run_eql_ptr_other (P := Try.prog) w4 (tp := 42) (a := ⟨b2, 0, none⟩) (b := ⟨b1, 0, none⟩) Try.underlying42 hi1 (by rw [hz1]; decide) (fun e => hne (by injection e)) HC4.out.st.blk HH4.out.st.blk
  clear i0 hi1 hz1 hne hne2
  go_upto_region 12 with (fail)
  clear heqp
  go_upto_region 13 with (go_at_call 21; (with_reducible refine (hs_write1 w.heap.size b1 v2 _ _ a w4 HH4.out HW4.out.size (by have := HFL.out; omega) (by omega)).mono ?_); rintro e w5 ⟨rfl, v3, hs5, hk5, ho5⟩; have HH5 := Lib.hid hs5; have HK5 := Lib.hid hk5; have HO5 := Lib.hid ho5; clear hs5 hk5 ho5)
  have hown2 : ∀ k, v2.ownBlock = some k → k < w3.heap.size := fun k hk => (HH2.out.st.seg.lt k hk).2
  have hc5 := HC4.out.keeps HK5.out (fun h => by
      rcases h with h | h
      · exact HN.out h
      · have := hown2 _ h.symm
        have := HB2.out
        omega) (fun k hk h => by
      have h1 := HU1.out k hk
      rcases h with h | h
      · have := HH2.out.lt
        omega
      · have := hown2 _ h.symm
        omega)
  have hbel5 := HW4.out.trans (HK5.out.below HW4.out.size (fun k hk => by
    rcases hk with rfl | hk
    · exact HH4.out.ge
    · exact (HH4.out.st.seg.lt k hk.symm).1))
  have hown3 : v3.ownBlock = v2.ownBlock ∨ ∃ k, w4.heap.size ≤ k ∧ v3.ownBlock = some k := HO5.out
  have HC5 := Lib.hid hc5
  have HW5 := Lib.hid hbel5
  have HOw := Lib.hid hown2
  clear hown2 hc5 hbel5 hown3
  go_upto_region 15 with (first
    | (go_at_call 22; (with_reducible refine (hs_sum w.heap.size b2 u1 _ _ w5 HC5.out (by have := HFL.out; omega)).mono ?_); rintro e w6 ⟨rfl, hb6⟩; have HB6 := Lib.hid hb6; clear hb6)
    | (go_at_call 12; (with_reducible refine (HS1.out _).mono ?_); rintro e w7 ⟨rfl, hb7⟩; have HB7 := Lib.hid hb7; clear hb7)
    | (go_at_call 21; (with_reducible refine (hs_write1 w.heap.size b2 u1 _ _ b w7 (HC5.out.below (below_then HB6.out HB6.out.size HB7.out)) (Nat.le_trans HW5.out.size (Nat.le_trans HB6.out.size HB7.out.size)) (by have := HFL.out; have := HBL.out; omega) (by omega)).mono ?_); rintro e w8 ⟨rfl, u2, hs8, hk8, ho8⟩; have HC8 := Lib.hid hs8; have HK8 := Lib.hid hk8; clear hs8 hk8 ho8))
  have hbel8 := below_then HB6.out HB6.out.size HB7.out
  have hh8 := (HH5.out.below hbel8).keeps HK8.out (fun h => by
      rcases h with h | h
      · exact HN.out h.symm
      · have := HU1.out _ h.symm
        have := HH2.out.lt
        omega) (fun k hk h => by
      have hb2 := HB2.out
      have hb2l := HC4.out.lt
      rcases HO5.out with h1 | ⟨k1, hk1, h1⟩
      · have h2 := HOw.out k (h1.symm.trans hk)
        rcases h with h | h
        · omega
        · have := HU1.out k h.symm
          omega
      · rw [hk] at h1
        injection h1 with h1
        rcases h with h | h
        · omega
        · have := (HC4.out.st.seg.lt k h.symm).2
          omega)
  have hw8 : Below w.heap.size w w8 := (below_then HW5.out HW5.out.size hbel8).trans (HK8.out.below (below_then HW5.out HW5.out.size hbel8).size (fun k hk => by
    rcases hk with rfl | hk
    · exact HC4.out.ge
    · exact (HC4.out.st.seg.lt k hk.symm).1))
  have HH8 := Lib.hid hh8
  have HW8 := Lib.hid hw8
  have hcat1 : ¬ (9223372036854775807 < ((f.size : Int) + (a.size : Int))) := by omega
  have hcat2 : ¬ (9223372036854775807 < ((f.size : Int) + (b.size : Int))) := by omega
  clear hbel8 hh8 hw8
  go_wp2_with (first
    | (go_at_call 22; (with_reducible refine (hs_sum w.heap.size b1 v3 _ _ w8 HH8.out (by rw [List.length_append]; have := HFL.out; have := HAL.out; omega)).mono ?_); rintro e w9 ⟨rfl, hb9⟩; have HB9 := Lib.hid hb9; clear hb9)
    | (go_at_call 12; (with_reducible refine (HS2.out _).mono ?_); rintro e w10 ⟨rfl, hb10⟩; have HB10 := Lib.hid hb10; clear hb10)
    | (go_at_call 22; (with_reducible refine (hs_sum w.heap.size b2 u2 _ _ w10 (HC8.out.below (below_then HB9.out HB9.out.size HB10.out)) (by rw [List.length_append]; have := HFL.out; have := HBL.out; omega)).mono ?_); rintro e w11 ⟨rfl, hb11⟩; have HB11 := Lib.hid hb11; clear hb11)
    | (go_at_call 12; (with_reducible refine (HS3.out _).mono ?_); rintro e w12 ⟨rfl, hb12⟩; have HB12 := Lib.hid hb12; clear hb12))
  go_ret
  have h9 := below_then HW8.out HW8.out.size HB9.out
  have h10 := below_then h9 h9.size HB10.out
  have h11 := below_then h10 h10.size HB11.out
  exact ⟨rfl, below_then h11 h11.size HB12.out⟩

end Go.Proofs.Ytkkoldfaplonaaa
